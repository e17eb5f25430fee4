/- Slices that the code makes itself, in a walk. It bears no condition. -/
import Derived.Test.YtjheedfobmlalaaE30
namespace Go.Proofs.Ytjheedfobmlalaa.E
set_option linter.unusedVariables false
set_option linter.unusedSimpArgs false

theorem nx_exit {K : Tm → AH → Prop} {Q : XExit → Tm → AH → Prop} {id : Nat} {T : Tm} {H : AH} (h : Q (.exit id) T H) : nx K Q (.exit id) T H := h
theorem nx_ret {K : Tm → AH → Prop} {Q : XExit → Tm → AH → Prop} {T : Tm} {H : AH} (h : Q .ret T H) : nx K Q .ret T H := h
theorem bk_ret {id : Nat} {Q : XExit → Tm → AH → Prop} {T : Tm} {H : AH} (h : Q .ret T H) : bk id Q .ret T H := h
theorem AH.Ok.set {H : AH} (h : H.Ok) {n : Nat} (hn : n < H.next) (b : Blk) : (H.set n b).Ok := fun q c hq => by
  rw [AH.get_set] at hq
  split at hq
  · rename_i e; subst e; exact hn
  · exact h q c hq
theorem AH.Ok.drop {H : AH} (h : H.Ok) (n : Nat) : (H.drop n).Ok := fun q c hq => by
  rw [AH.get_drop] at hq
  split at hq
  · cases hq
  · exact h q c hq
theorem AH.Ok.alloc {H : AH} (h : H.Ok) (b : Blk) : (H.alloc b).Ok := fun q c hq => by
  rw [AH.get_alloc] at hq
  rw [AH.next_alloc]
  split at hq
  · omega
  · have := h q c hq; omega
theorem AH.Ok.write {H H' : AH} (h : H.Ok) {b o : Nat} {vs : List AV} (k : H.write b o vs = some H') : H'.Ok := by
  unfold AH.write at k
  split at k
  · simp only [Option.some.injEq] at k; subst k; exact h
  · split at k
    · rename_i hg
      split at k
      · simp only [Option.some.injEq] at k; subst k; exact h.set (h _ _ hg) _
      · cases k
    · cases k
theorem AH.Ok.append {T : Tm} {H H' : AH} {c : CallF} {sz bytes : Nat} {s x : XO} {v : AV} (h : H.Ok) (k : (XOp.append sz bytes s x).run c T H = some (v, H')) : H'.Ok := by
  simp only [XOp.run, XOp.turn] at k
  repeat' split at k
  all_goals first
    | (simp only [Option.some.injEq, Prod.mk.injEq] at k; obtain ⟨_, rfl⟩ := k; first | exact h | exact h.alloc _ | exact (h.alloc _).drop _)
    | (simp only [Option.map_eq_some_iff, Prod.mk.injEq] at k; obtain ⟨_, hw, _, rfl⟩ := k; exact h.write hw)
    | (cases k; done)

/-- A slice of the code's own, its block not older than N. -/
structure Mine (N sz : Nat) (H : AH) (v : AV) (l : List AV) : Prop where
  own : Own sz H v l
  new : ∀ q, v.nameOf q → N ≤ q
theorem Mine.nil (N sz : Nat) (H : AH) : Mine N sz H (.sl none 0 0 0) [] := ⟨.nil, fun q h => by cases h⟩
theorem Own.frame {sz : Nat} {H H' : AH} {v : AV} {l : List AV} (h : Own sz H v l) (hn : H.next ≤ H'.next) (hk : ∀ q, q < H.next → v.nameOf q → H'.get q = H.get q) : Own sz H' v l := by
  cases h with
  | nil => exact .nil
  | mk hb hlt hg hl => exact .mk (by rw [hk _ hlt (nameOf_sl.2 rfl)]; exact hb) (by omega) hg hl
theorem Mine.anew {N sz : Nat} {H H' : AH} {v : AV} {l : List AV} {n : Nat} {b : Blk} (h : Mine N sz H v l) (k : New H n b H') : Mine N sz H' v l := ⟨h.own.frame (by rw [k.2.1]; omega) fun q hq _ => k.2.2.2 q (by have := k.1; omega), h.new⟩
theorem Mine.aside {N sz : Nat} {H H' : AH} {v : AV} {l : List AV} {n : Nat} (h : Mine N sz H v l) (k : Aside H n H') : Mine N sz H' v l := ⟨h.own.frame (by rw [k.1]; omega) fun q hq _ => k.2 q, h.new⟩
theorem Mine.wr {N sz : Nat} {H H' : AH} {v : AV} {l : List AV} {n : Nat} {b : Blk} (h : Mine N sz H v l) (k : Wr H n b H') (hn : ¬ v.nameOf n) : Mine N sz H' v l := ⟨h.own.frame (by rw [k.1]; omega) fun q hq hv => k.2.2 q (by rintro rfl; exact hn hv), h.new⟩
theorem Own.len {sz : Nat} {H : AH} {v : AV} {l : List AV} (h : Own sz H v l) : ∃ n, lenOfA v = some n ∧ l.length = n * sz := by
  cases h with
  | nil => exact ⟨0, rfl, by simp⟩
  | mk hb hlt hg hl => exact ⟨_, rfl, hl⟩
theorem Own.lenOf {sz n : Nat} {H : AH} {v : AV} {l : List AV} (h : Own sz H v l) (hn : l.length = n * sz) (hsz : 0 < sz) : lenOfA v = some n := by
  obtain ⟨m, h1, h2⟩ := h.len
  rw [h1, Nat.eq_of_mul_eq_mul_right hsz (h2.symm.trans hn)]
theorem Own.lt {sz : Nat} {H : AH} {v : AV} {l : List AV} (h : Own sz H v l) {q : Nat} (hq : v.nameOf q) : q < H.next := by
  cases h with
  | nil => cases hq
  | mk hb hlt hg hl => rw [nameOf_sl] at hq; subst hq; exact hlt
theorem Mine.dis {N sz : Nat} {H : AH} {v : AV} {l : List AV} (h : Mine N sz H v l) {n : Nat} (hn : H.next ≤ n) : ¬ v.nameOf n := fun hq => by have := h.own.lt hq; omega
theorem Own.isSl {sz : Nat} {H : AH} {v : AV} {l : List AV} (h : Own sz H v l) : ∃ a len cap g, v = .sl a len cap g := by
  cases h with
  | nil => exact ⟨_, _, _, _, rfl⟩
  | mk hb hlt hg hl => exact ⟨_, _, _, _, rfl⟩
/-- What an append to a slice of the code's own has turned. -/
def App (N sz : Nat) (v : AV) (H : AH) (l : List AV) (v' : AV) (H' : AH) : Prop :=
  Mine N sz H' v' l ∧ H.next ≤ H'.next ∧ (∀ q, q < H.next → ¬ v.nameOf q → H'.get q = H.get q) ∧ H'.Ok ∧ ∀ q, v'.nameOf q → v.nameOf q ∨ H.next ≤ q
theorem App.dis {N sz : Nat} {H H' : AH} {v v' : AV} {l : List AV} (h : App N sz v H l v' H') {n : Nat} (hn : n < H.next) (hd : ¬ v.nameOf n) : ¬ v'.nameOf n := fun hq => by
  rcases h.2.2.2.2 n hq with h | h
  · exact hd h
  · omega
section
variable {T : Tm} {H : AH} {c : CallF}
theorem App.old {N sz : Nat} {H0 H' : AH} {v v' : AV} {l : List AV} (h : App N sz v H l v' H') {l0 : List AV} (hv : Mine N sz H v l0) (k : Old N H0 H) : Old N H0 H' :=
  ⟨Nat.le_trans k.next h.2.1, fun n hn => by rw [h.2.2.1 n (Nat.lt_of_lt_of_le hn k.next) (fun hq => by have := hv.new n hq; omega), k.keep n hn], h.2.2.2.1⟩
theorem src_blk {size k b o len cap g : Nat} {cs new : List AV} {mu : Bool} (hb : H.get b = some (.cells cs mu)) (hc : takeAt cs o (k * size) = some new) : XOp.src H size k (.sl (some (b, o)) len cap g) = some new := by
  simp only [XOp.src, hb, hc]
  split
  · rename_i h0
    have h1 := (takeAt_len hc).1
    have : new = [] := List.eq_nil_of_length_eq_zero (by omega)
    rw [this]
  · rfl
/-- A slice of octets that the code has made, as one that is read. -/
theorem Own.bs {v : AV} {l : List UInt8} (h : Own 1 H v (bcells l)) : ∃ a g, v = .sl a l.length l.length g ∧ (g = 0 ∨ g = 1) ∧ Bs H v l := by
  generalize hc : bcells l = cs at h
  cases h with
  | nil =>
    have : l = [] := by cases l with | nil => rfl | cons x l => simp [bcells] at hc
    subst this
    exact ⟨none, 0, rfl, .inl rfl, .nil⟩
  | @mk b n g l' hb hlt hg hl =>
    subst hc
    have e : n = l.length := by rw [bcells_len] at hl; omega
    subst e
    exact ⟨some (b, 0), g, rfl, hg, .mk hb (by rw [takeAt_ok (by rw [bcells_len]; omega), List.drop_zero, List.take_of_length_le (by rw [bcells_len]; omega)])⟩
/-- The place of a cell. -/
def CellAt (H : AH) (v : AV) (y : AV) : Prop := ∃ b o cs mu, v = .p (some (b, o)) ∧ H.get b = some (.cells cs mu) ∧ cs[o]? = some y
theorem CellAt.load {v y : AV} (h : CellAt H v y) {n : Nat} {x : XO} (hx : x.ev T = v) : (XOp.load false n x).run c T H = some (y, H) := by
  obtain ⟨b, o, cs, mu, rfl, h2, h3⟩ := h
  exact r_ld hx h2 h3
theorem Own.ix {v y : AV} {l : List AV} {k : IntKind} (h : Own 1 H v l) {x j : XO} {i : Nat} (hx : x.ev T = v) (hi : j.ev T = .i k i) (h1 : l[i]? = some y) : ∃ w, (XOp.isl 1 x j).run c T H = some (w, H) ∧ CellAt H w y := by
  have hlt := (List.getElem?_eq_some_iff.1 h1).1
  cases h with
  | nil => simp at hlt
  | @mk b n g l hb hlt' hg hl =>
    exact ⟨_, r_isl hx hi (by omega) (by omega), b, 0 + ((i : Int)).toNat * 1, l, true, rfl, hb, by simpa using h1⟩
end
end Go.Proofs.Ytjheedfobmlalaa.E
