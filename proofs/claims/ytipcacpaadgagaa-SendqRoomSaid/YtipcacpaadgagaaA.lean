/- Queues of chunks: what lies in the heap; small functions. It bears no condition. -/
import Derived.Test.YtipcacpaadgagaaE46
import Derived.Test.YtipcacpaadgagaaX
import Derived.Test.YtipcacpaadgagaaE37
namespace Go.Proofs.Ytipcacpaadgagaa.E
set_option linter.unusedVariables false
set_option linter.unusedSimpArgs false
theorem globals0 : Try.prog.globals.size = 0 := by kernel_rfl
theorem mixed : Try.prog.follows .mixedOrders = true := by kernel_rfl
theorem laid : laidOutB Try.prog = true := by kernel_rfl
def tabA := without [10] tab
theorem tabA_ok : TabOK Try.prog tabA := without_ok tab_ok
def spA := withSp 10 [] (.b true) noSp
theorem spA_ok : SpOK Try.prog tabA spA := withSp_ok (k := 300) (f := 10) (args := []) (v := .b true) mixed globals0 tab_ok noSp_ok (by kernel_rfl) rfl rfl noSp_ok
theorem New.loop {H H' : AH} {L : Nat} {st : LoopState} {pend : Option XExit} {ps : List Nat} {asg body : XC} {T : Tm} (h : New H L (.loop st pend ps asg body T) H') : ∃ LB, LB = Blk.loop st pend ps asg body T ∧ New H L LB H' := ⟨_, rfl, h⟩
abbrev w32 (x : Int) : Int := IntKind.u32.wrap x
/-! ### Entries of a queue -/
structure Cx where
  k : Int
  f : Int
  b : Int
  o : Int
  i : Int
  p : Int
  x1 : AV
  x2 : AV
  x3 : AV
  x4 : AV
  d : List UInt8
structure Ea where
  c : Cx
  a : Int
  st : Int
  sent : Int
  tm : Int
  mi : Int
structure En where
  e : Ea
  n : Nat
  m : Nat
  dv : AV
def Ea.fly (now : Int) (e : Ea) : Ea := ⟨e.c, e.a, 1, e.sent + 1, now, 0⟩
def cxRow (c : Cx) (a : Int) (dv : AV) : List AV := [.i .u8 c.k, .i .u8 c.f, .i .u32 a, .i .u32 c.b, .i .u16 c.o, .i .u16 c.i, .i .u32 c.p, c.x1, c.x2, c.x3, c.x4, dv]
def enRow (x : En) : List AV := [.i .u8 x.e.c.k, .i .u8 x.e.c.f, .i .u32 x.e.a, .i .u32 x.e.c.b, .i .u16 x.e.c.o, .i .u16 x.e.c.i, .i .u32 x.e.c.p, x.e.c.x1, x.e.c.x2, x.e.c.x3, x.e.c.x4, x.dv, .p (some (x.m, 0)), .i .i64 x.e.st, .i .i64 x.e.sent, .i .i64 x.e.tm, .i .i64 x.e.mi]
def En.seg (x : En) : HL := [(x.n, some (.cells (enRow x) true))]
def En.pr (x : En) : List AV := [.p (some (x.n, 0))]
/-- Octets that lie in D. -/
def OctIn (D : HL) (v : AV) (d : List UInt8) : Prop := ∃ (a : Option (Nat × Nat)) (cap g : Nat), v = .sl a d.length cap g ∧ (g = 0 ∨ g = 1) ∧ d.length ≤ cap ∧ cap ≤ 9223372036854775807 ∧ ∀ H', Hs H' D → Bs H' (.sl a d.length cap g) d
theorem OctIn.mono {A B : HL} {v : AV} {d : List UInt8} (h : OctIn A v d) (hs : ∀ H', Hs H' B → Hs H' A) : OctIn B v d := by
  obtain ⟨a, cap, g, h1, h2, h3, h4, h5⟩ := h
  exact ⟨a, cap, g, h1, h2, h3, h4, fun H' hh => h5 H' (hs H' hh)⟩
/-- Chunks in a slice that is read. -/
def CxsR (D : HL) (rows : List (List AV)) (cs : List (Cx × Int)) : Prop := rows.length = cs.length ∧ ∀ (i : Nat) (x : Cx × Int), cs[i]? = some x → ∃ dv, rows[i]? = some (cxRow x.1 x.2 dv) ∧ OctIn D dv x.1.d
theorem CxsR.nil {D : HL} : CxsR D [] [] := ⟨rfl, fun i x h => by simp at h⟩
theorem CxsR.mono {A B : HL} {rows : List (List AV)} {cs : List (Cx × Int)} (h : CxsR A rows cs) (hs : ∀ H', Hs H' B → Hs H' A) : CxsR B rows cs := ⟨h.1, fun i x hx => by
  obtain ⟨dv, h1, h2⟩ := h.2 i x hx
  exact ⟨dv, h1, h2.mono hs⟩⟩
theorem CxsR.snoc {D : HL} {rows : List (List AV)} {cs : List (Cx × Int)} {x : Cx × Int} {dv : AV} (h : CxsR D rows cs) (hd : OctIn D dv x.1.d) : CxsR D (rows ++ [cxRow x.1 x.2 dv]) (cs ++ [x]) := by
  refine ⟨by rw [List.length_append, List.length_append, h.1]; rfl, fun i y hy => ?_⟩
  by_cases hi : i < cs.length
  · rw [List.getElem?_append_left hi] at hy
    obtain ⟨q, h1, h2⟩ := h.2 i y hy
    exact ⟨q, by rw [List.getElem?_append_left (by rw [h.1]; exact hi)]; exact h1, h2⟩
  · rw [List.getElem?_append_right (by omega)] at hy
    have h0 : i - cs.length = 0 := by
      have := (List.getElem?_eq_some_iff.1 hy).1
      simp only [List.length_cons, List.length_nil] at this; omega
    rw [h0] at hy
    simp only [List.getElem?_cons_zero, Option.some.injEq] at hy
    subst hy
    exact ⟨dv, by rw [List.getElem?_append_right (by rw [h.1]; omega), h.1, h0]; rfl, hd⟩
theorem CxsR.get {D : HL} {rows : List (List AV)} {cs : List (Cx × Int)} (h : CxsR D rows cs) {i : Nat} (hi : i < cs.length) : ∃ x dv, cs[i]? = some x ∧ rows[i]? = some (cxRow x.1 x.2 dv) ∧ OctIn D dv x.1.d := by
  obtain ⟨dv, h1, h2⟩ := h.2 i _ (List.getElem?_eq_getElem hi)
  exact ⟨_, dv, List.getElem?_eq_getElem hi, h1, h2⟩
theorem CxsR.lens {D : HL} {rows : List (List AV)} {cs : List (Cx × Int)} (h : CxsR D rows cs) : ∀ r ∈ rows, r.length = 12 := fun r hr => by
  obtain ⟨i, hi, rfl⟩ := List.getElem_of_mem hr
  have hi' : i < cs.length := by rw [← h.1]; exact hi
  obtain ⟨dv, h1, _⟩ := h.2 i _ (List.getElem?_eq_getElem hi')
  rw [List.getElem?_eq_getElem hi] at h1
  simp only [Option.some.injEq] at h1
  rw [h1]; rfl
theorem pr_lens (q : List En) : ∀ r ∈ q.map En.pr, r.length = 1 := fun r hr => by obtain ⟨x, _, rfl⟩ := List.mem_map.1 hr; rfl
theorem pr_get {q : List En} {k : Nat} {x : En} (h : q[k]? = some x) : (q.map En.pr)[k]? = some [.p (some (x.n, 0))] := by rw [List.getElem?_map, h]; rfl
theorem pr_map {q r : List En} (h : q.map En.n = r.map En.n) : q.map En.pr = r.map En.pr := by
  have e : ∀ l : List En, l.map En.pr = (l.map En.n).map fun n => [AV.p (some (n, 0))] := fun l => by rw [List.map_map]; rfl
  rw [e, e, h]
theorem erase_perm {α β : Type} (f : α → List β) : ∀ {l : List α} {k : Nat} {p : α}, l[k]? = some p → (l.flatMap f).Perm (f p ++ (l.eraseIdx k).flatMap f)
  | [], k, p, h => by simp at h
  | a :: l, 0, p, h => by
    simp only [List.getElem?_cons_zero, Option.some.injEq] at h
    subst h
    rw [List.flatMap_cons]; exact List.Perm.refl _
  | a :: l, k + 1, p, h => by
    have h1 := erase_perm f (l := l) (k := k) (p := p) (by simpa using h)
    rw [List.eraseIdx_cons_succ, List.flatMap_cons, List.flatMap_cons]
    refine (List.Perm.append_left _ h1).trans ?_
    rw [← List.append_assoc, ← List.append_assoc]
    exact List.Perm.append_right _ List.perm_append_comm
theorem erase_set {α : Type} : ∀ {l : List α} {k : Nat} {p : α}, (l.set k p).eraseIdx k = l.eraseIdx k
  | [], _, _ => rfl
  | a :: l, 0, p => rfl
  | a :: l, k + 1, p => by rw [List.set_cons_succ, List.eraseIdx_cons_succ, List.eraseIdx_cons_succ, erase_set]
theorem rows_same {α : Type} {l : List α} {k : Nat} {x : α} (h : l[k]? = some x) : l.set k x = l := by
  obtain ⟨hk, rfl⟩ := List.getElem?_eq_some_iff.1 h
  exact List.set_getElem_self hk
section
variable {H : AH} {R : HL} {q : List En} {k : Nat} {x y : En}
theorem En.out (h : q[k]? = some x) (hH : Hs H (q.flatMap En.seg ++ R)) : Hs H ([(x.n, some (.cells [.i .u8 x.e.c.k, .i .u8 x.e.c.f, .i .u32 x.e.a, .i .u32 x.e.c.b, .i .u16 x.e.c.o, .i .u16 x.e.c.i, .i .u32 x.e.c.p, x.e.c.x1, x.e.c.x2, x.e.c.x3, x.e.c.x4, x.dv, .p (some (x.m, 0)), .i .i64 x.e.st, .i .i64 x.e.sent, .i .i64 x.e.tm, .i .i64 x.e.mi] true))] ++ ((q.eraseIdx k).flatMap En.seg ++ R)) := by
  refine Hs.perm hH ?_
  refine (List.Perm.append_right R (erase_perm En.seg h)).trans ?_
  rw [List.append_assoc]; exact List.Perm.refl _
theorem En.back (h : q[k]? = some x) (hH : Hs H ([(y.n, some (.cells (enRow y) true))] ++ ((q.eraseIdx k).flatMap En.seg ++ R))) : Hs H ((q.set k y).flatMap En.seg ++ R) := by
  have hk := (List.getElem?_eq_some_iff.1 h).1
  refine Hs.perm hH ?_
  have h2 : (q.set k y)[k]? = some y := List.getElem?_set_self hk
  refine List.Perm.trans ?_ (List.Perm.append_right R (erase_perm En.seg h2)).symm
  rw [erase_set, List.append_assoc]; exact List.Perm.refl _
theorem En.back0 (h : q[k]? = some x) (hH : Hs H ([(x.n, some (.cells (enRow x) true))] ++ ((q.eraseIdx k).flatMap En.seg ++ R))) : Hs H (q.flatMap En.seg ++ R) := by
  have h1 := En.back (y := x) h hH
  rw [rows_same h] at h1; exact h1
end
/-- A queue in the heap. -/
def Qr (F : Nat) (es : List Ea) (nx : Int) (D L : HL) : Prop := ∃ (lv : AV) (lc : List AV) (q : List En), q.map En.e = es ∧ Sq 1 lv lc (q.map En.pr).flatten ∧ (∀ x ∈ q, OctIn D x.dv x.e.c.d) ∧ L = [(F, some (.cells [lv, .i .u32 nx] true))] ++ (qseg lv lc ++ q.flatMap En.seg)
def pushA : List (Cx × Int) → Int → List Ea
  | [], _ => []
  | c :: cs, a => ⟨c.1, w32 a, 0, 0, 0, 0⟩ :: pushA cs (a + 1)
theorem pushA_snoc : ∀ {cs : List (Cx × Int)} {a : Int} {c : Cx × Int}, pushA (cs ++ [c]) a = pushA cs a ++ [⟨c.1, w32 (a + cs.length), 0, 0, 0, 0⟩]
  | [], a, c => by show [_] = [_]; rw [show a + (([] : List (Cx × Int)).length : Int) = a from Int.add_zero a]
  | b :: cs, a, c => by
    show _ :: pushA (cs ++ [c]) (a + 1) = _ :: (pushA cs (a + 1) ++ _)
    rw [pushA_snoc]
    congr 5
    simp only [List.length_cons]; omega
theorem pushA_len : ∀ {cs : List (Cx × Int)} {a : Int}, (pushA cs a).length = cs.length
  | [], a => rfl
  | b :: cs, a => by show (pushA cs (a + 1)).length + 1 = _; rw [pushA_len]; rfl
/-- Entries of a state, as many as there is room for. -/
def takeL (s now : Int) : List Ea → Int → List Ea × List Ea × Int × Bool
  | [], r => ([], [], r, false)
  | e :: l, r => if e.st = s then (if r < (e.c.d.length : Int) then (e :: l, [], r, true) else (e.fly now :: (takeL s now l (r - e.c.d.length)).1, e :: (takeL s now l (r - e.c.d.length)).2.1, (takeL s now l (r - e.c.d.length)).2.2.1, (takeL s now l (r - e.c.d.length)).2.2.2)) else (e :: (takeL s now l r).1, (takeL s now l r).2.1, (takeL s now l r).2.2.1, (takeL s now l r).2.2.2)
section
variable {s now r : Int} {e : Ea} {l : List Ea}
theorem takeL_ne (h : ¬ e.st = s) : takeL s now (e :: l) r = (e :: (takeL s now l r).1, (takeL s now l r).2.1, (takeL s now l r).2.2.1, (takeL s now l r).2.2.2) := by
  show (if e.st = s then _ else _ : List Ea × List Ea × Int × Bool) = _
  rw [if_neg h]
theorem takeL_full (h : e.st = s) (hr : r < (e.c.d.length : Int)) : takeL s now (e :: l) r = (e :: l, [], r, true) := by
  show (if e.st = s then _ else _ : List Ea × List Ea × Int × Bool) = _
  rw [if_pos h, if_pos hr]
theorem takeL_fit (h : e.st = s) (hr : ¬ r < (e.c.d.length : Int)) : takeL s now (e :: l) r = (e.fly now :: (takeL s now l (r - e.c.d.length)).1, e :: (takeL s now l (r - e.c.d.length)).2.1, (takeL s now l (r - e.c.d.length)).2.2.1, (takeL s now l (r - e.c.d.length)).2.2.2) := by
  show (if e.st = s then _ else _ : List Ea × List Ea × Int × Bool) = _
  rw [if_pos h, if_neg hr]
end
theorem takeL_app {s now : Int} {l2 : List Ea} : ∀ {l1 : List Ea} {r : Int}, takeL s now (l1 ++ l2) r = if (takeL s now l1 r).2.2.2 then ((takeL s now l1 r).1 ++ l2, (takeL s now l1 r).2.1, (takeL s now l1 r).2.2.1, true) else ((takeL s now l1 r).1 ++ (takeL s now l2 (takeL s now l1 r).2.2.1).1, (takeL s now l1 r).2.1 ++ (takeL s now l2 (takeL s now l1 r).2.2.1).2.1, (takeL s now l2 (takeL s now l1 r).2.2.1).2.2.1, (takeL s now l2 (takeL s now l1 r).2.2.1).2.2.2)
  | [], r => rfl
  | e :: l1, r => by
    rw [List.cons_append]
    by_cases h : e.st = s
    · by_cases hr : r < (e.c.d.length : Int)
      · rw [takeL_full h hr, takeL_full h hr]; rfl
      · rw [takeL_fit h hr, takeL_fit h hr, takeL_app]
        dsimp only
        split <;> rfl
    · rw [takeL_ne h, takeL_ne h, takeL_app]
      dsimp only
      split <;> rfl
theorem takeL_len {s now : Int} : ∀ {l : List Ea} {r : Int}, (takeL s now l r).1.length = l.length
  | [], r => rfl
  | e :: l, r => by
    by_cases h : e.st = s
    · by_cases hr : r < (e.c.d.length : Int)
      · rw [takeL_full h hr]
      · rw [takeL_fit h hr]
        show (takeL s now l _).1.length + 1 = _
        rw [takeL_len]; rfl
    · rw [takeL_ne h]
      show (takeL s now l _).1.length + 1 = _
      rw [takeL_len]; rfl
section
variable {H H' : AH} {L L' A B R S : HL} {n : Nat} {b b' : Option Blk}
theorem Hs.top10 {s0 s1 s2 s3 s4 s5 s6 s7 s8 s9 : HL} (h : Hs H (s0 ++ (s1 ++ (s2 ++ (s3 ++ (s4 ++ (s5 ++ (s6 ++ (s7 ++ (s8 ++ (s9 ++ (S ++ (R))))))))))))) : Hs H (S ++ (s0 ++ (s1 ++ (s2 ++ (s3 ++ (s4 ++ (s5 ++ (s6 ++ (s7 ++ (s8 ++ (s9 ++ (R)))))))))))) := by
  refine h.perm ?_
  have := List.perm_append_comm_assoc (s0 ++ s1 ++ s2 ++ s3 ++ s4 ++ s5 ++ s6 ++ s7 ++ s8 ++ s9) S R
  simpa only [List.append_assoc] using this
theorem Hs.bot10 {s0 s1 s2 s3 s4 s5 s6 s7 s8 s9 : HL} (h : Hs H (S ++ (s0 ++ (s1 ++ (s2 ++ (s3 ++ (s4 ++ (s5 ++ (s6 ++ (s7 ++ (s8 ++ (s9 ++ (R))))))))))))) : Hs H (s0 ++ (s1 ++ (s2 ++ (s3 ++ (s4 ++ (s5 ++ (s6 ++ (s7 ++ (s8 ++ (s9 ++ (S ++ (R)))))))))))) := by
  refine h.perm ?_
  have := List.perm_append_comm_assoc S (s0 ++ s1 ++ s2 ++ s3 ++ s4 ++ s5 ++ s6 ++ s7 ++ s8 ++ s9) R
  simpa only [List.append_assoc] using this
theorem Hs.get10 {s0 s1 s2 s3 s4 s5 s6 s7 s8 s9 : HL} (h : Hs H (s0 ++ (s1 ++ (s2 ++ (s3 ++ (s4 ++ (s5 ++ (s6 ++ (s7 ++ (s8 ++ (s9 ++ ([(n, b)] ++ (R))))))))))))) : H.get n = b := h.top10.get
theorem Hs.mem10 {s0 s1 s2 s3 s4 s5 s6 s7 s8 s9 : HL} (h : Hs H (s0 ++ (s1 ++ (s2 ++ (s3 ++ (s4 ++ (s5 ++ (s6 ++ (s7 ++ (s8 ++ (s9 ++ (S ++ (R))))))))))))) {m : Nat} {c : Option Blk} (hm : (m, c) ∈ S) : H.get m = c := h.top10.mem hm
theorem Hs.wr10 {s0 s1 s2 s3 s4 s5 s6 s7 s8 s9 : HL} {c : Blk} (h : Hs H (s0 ++ (s1 ++ (s2 ++ (s3 ++ (s4 ++ (s5 ++ (s6 ++ (s7 ++ (s8 ++ (s9 ++ ([(n, b)] ++ (R))))))))))))) (k : Wr H n c H') : Hs H' (s0 ++ (s1 ++ (s2 ++ (s3 ++ (s4 ++ (s5 ++ (s6 ++ (s7 ++ (s8 ++ (s9 ++ ([(n, some c)] ++ (R)))))))))))) := (h.top10.wr k).bot10
theorem Hs.drp10 {s0 s1 s2 s3 s4 s5 s6 s7 s8 s9 : HL} (h : Hs H (s0 ++ (s1 ++ (s2 ++ (s3 ++ (s4 ++ (s5 ++ (s6 ++ (s7 ++ (s8 ++ (s9 ++ ([(n, b)] ++ (R))))))))))))) (k : Drp H n H') : Hs H' (s0 ++ (s1 ++ (s2 ++ (s3 ++ (s4 ++ (s5 ++ (s6 ++ (s7 ++ (s8 ++ (s9 ++ (R))))))))))) := h.top10.drp k
theorem Hs.sub10 {s0 s1 s2 s3 s4 s5 s6 s7 s8 s9 : HL} (h : Hs H (s0 ++ (s1 ++ (s2 ++ (s3 ++ (s4 ++ (s5 ++ (s6 ++ (s7 ++ (s8 ++ (s9 ++ (S ++ (R))))))))))))) : Hs H (s0 ++ (s1 ++ (s2 ++ (s3 ++ (s4 ++ (s5 ++ (s6 ++ (s7 ++ (s8 ++ (s9 ++ (R))))))))))) := h.top10.sub
theorem Hs.cong10 {s0 s1 s2 s3 s4 s5 s6 s7 s8 s9 : HL} (h : Hs H (s0 ++ (s1 ++ (s2 ++ (s3 ++ (s4 ++ (s5 ++ (s6 ++ (s7 ++ (s8 ++ (s9 ++ (A ++ (R))))))))))))) (e : A = B) : Hs H (s0 ++ (s1 ++ (s2 ++ (s3 ++ (s4 ++ (s5 ++ (s6 ++ (s7 ++ (s8 ++ (s9 ++ (B ++ (R)))))))))))) := e ▸ h
theorem Hs.assoc10 {s0 s1 s2 s3 s4 s5 s6 s7 s8 s9 : HL} (h : Hs H (s0 ++ (s1 ++ (s2 ++ (s3 ++ (s4 ++ (s5 ++ (s6 ++ (s7 ++ (s8 ++ (s9 ++ ((A ++ B) ++ (R))))))))))))) : Hs H (s0 ++ (s1 ++ (s2 ++ (s3 ++ (s4 ++ (s5 ++ (s6 ++ (s7 ++ (s8 ++ (s9 ++ (A ++ (B ++ (R))))))))))))) := by rw [List.append_assoc] at h; exact h
theorem Hs.top11 {s0 s1 s2 s3 s4 s5 s6 s7 s8 s9 s10 : HL} (h : Hs H (s0 ++ (s1 ++ (s2 ++ (s3 ++ (s4 ++ (s5 ++ (s6 ++ (s7 ++ (s8 ++ (s9 ++ (s10 ++ (S ++ (R)))))))))))))) : Hs H (S ++ (s0 ++ (s1 ++ (s2 ++ (s3 ++ (s4 ++ (s5 ++ (s6 ++ (s7 ++ (s8 ++ (s9 ++ (s10 ++ (R))))))))))))) := by
  refine h.perm ?_
  have := List.perm_append_comm_assoc (s0 ++ s1 ++ s2 ++ s3 ++ s4 ++ s5 ++ s6 ++ s7 ++ s8 ++ s9 ++ s10) S R
  simpa only [List.append_assoc] using this
theorem Hs.bot11 {s0 s1 s2 s3 s4 s5 s6 s7 s8 s9 s10 : HL} (h : Hs H (S ++ (s0 ++ (s1 ++ (s2 ++ (s3 ++ (s4 ++ (s5 ++ (s6 ++ (s7 ++ (s8 ++ (s9 ++ (s10 ++ (R)))))))))))))) : Hs H (s0 ++ (s1 ++ (s2 ++ (s3 ++ (s4 ++ (s5 ++ (s6 ++ (s7 ++ (s8 ++ (s9 ++ (s10 ++ (S ++ (R))))))))))))) := by
  refine h.perm ?_
  have := List.perm_append_comm_assoc S (s0 ++ s1 ++ s2 ++ s3 ++ s4 ++ s5 ++ s6 ++ s7 ++ s8 ++ s9 ++ s10) R
  simpa only [List.append_assoc] using this
theorem Hs.get11 {s0 s1 s2 s3 s4 s5 s6 s7 s8 s9 s10 : HL} (h : Hs H (s0 ++ (s1 ++ (s2 ++ (s3 ++ (s4 ++ (s5 ++ (s6 ++ (s7 ++ (s8 ++ (s9 ++ (s10 ++ ([(n, b)] ++ (R)))))))))))))) : H.get n = b := h.top11.get
theorem Hs.mem11 {s0 s1 s2 s3 s4 s5 s6 s7 s8 s9 s10 : HL} (h : Hs H (s0 ++ (s1 ++ (s2 ++ (s3 ++ (s4 ++ (s5 ++ (s6 ++ (s7 ++ (s8 ++ (s9 ++ (s10 ++ (S ++ (R)))))))))))))) {m : Nat} {c : Option Blk} (hm : (m, c) ∈ S) : H.get m = c := h.top11.mem hm
theorem Hs.wr11 {s0 s1 s2 s3 s4 s5 s6 s7 s8 s9 s10 : HL} {c : Blk} (h : Hs H (s0 ++ (s1 ++ (s2 ++ (s3 ++ (s4 ++ (s5 ++ (s6 ++ (s7 ++ (s8 ++ (s9 ++ (s10 ++ ([(n, b)] ++ (R)))))))))))))) (k : Wr H n c H') : Hs H' (s0 ++ (s1 ++ (s2 ++ (s3 ++ (s4 ++ (s5 ++ (s6 ++ (s7 ++ (s8 ++ (s9 ++ (s10 ++ ([(n, some c)] ++ (R))))))))))))) := (h.top11.wr k).bot11
theorem Hs.drp11 {s0 s1 s2 s3 s4 s5 s6 s7 s8 s9 s10 : HL} (h : Hs H (s0 ++ (s1 ++ (s2 ++ (s3 ++ (s4 ++ (s5 ++ (s6 ++ (s7 ++ (s8 ++ (s9 ++ (s10 ++ ([(n, b)] ++ (R)))))))))))))) (k : Drp H n H') : Hs H' (s0 ++ (s1 ++ (s2 ++ (s3 ++ (s4 ++ (s5 ++ (s6 ++ (s7 ++ (s8 ++ (s9 ++ (s10 ++ (R)))))))))))) := h.top11.drp k
theorem Hs.sub11 {s0 s1 s2 s3 s4 s5 s6 s7 s8 s9 s10 : HL} (h : Hs H (s0 ++ (s1 ++ (s2 ++ (s3 ++ (s4 ++ (s5 ++ (s6 ++ (s7 ++ (s8 ++ (s9 ++ (s10 ++ (S ++ (R)))))))))))))) : Hs H (s0 ++ (s1 ++ (s2 ++ (s3 ++ (s4 ++ (s5 ++ (s6 ++ (s7 ++ (s8 ++ (s9 ++ (s10 ++ (R)))))))))))) := h.top11.sub
theorem Hs.cong11 {s0 s1 s2 s3 s4 s5 s6 s7 s8 s9 s10 : HL} (h : Hs H (s0 ++ (s1 ++ (s2 ++ (s3 ++ (s4 ++ (s5 ++ (s6 ++ (s7 ++ (s8 ++ (s9 ++ (s10 ++ (A ++ (R)))))))))))))) (e : A = B) : Hs H (s0 ++ (s1 ++ (s2 ++ (s3 ++ (s4 ++ (s5 ++ (s6 ++ (s7 ++ (s8 ++ (s9 ++ (s10 ++ (B ++ (R))))))))))))) := e ▸ h
theorem Hs.assoc11 {s0 s1 s2 s3 s4 s5 s6 s7 s8 s9 s10 : HL} (h : Hs H (s0 ++ (s1 ++ (s2 ++ (s3 ++ (s4 ++ (s5 ++ (s6 ++ (s7 ++ (s8 ++ (s9 ++ (s10 ++ ((A ++ B) ++ (R)))))))))))))) : Hs H (s0 ++ (s1 ++ (s2 ++ (s3 ++ (s4 ++ (s5 ++ (s6 ++ (s7 ++ (s8 ++ (s9 ++ (s10 ++ (A ++ (B ++ (R)))))))))))))) := by rw [List.append_assoc] at h; exact h
theorem Hs.top12 {s0 s1 s2 s3 s4 s5 s6 s7 s8 s9 s10 s11 : HL} (h : Hs H (s0 ++ (s1 ++ (s2 ++ (s3 ++ (s4 ++ (s5 ++ (s6 ++ (s7 ++ (s8 ++ (s9 ++ (s10 ++ (s11 ++ (S ++ (R))))))))))))))) : Hs H (S ++ (s0 ++ (s1 ++ (s2 ++ (s3 ++ (s4 ++ (s5 ++ (s6 ++ (s7 ++ (s8 ++ (s9 ++ (s10 ++ (s11 ++ (R)))))))))))))) := by
  refine h.perm ?_
  have := List.perm_append_comm_assoc (s0 ++ s1 ++ s2 ++ s3 ++ s4 ++ s5 ++ s6 ++ s7 ++ s8 ++ s9 ++ s10 ++ s11) S R
  simpa only [List.append_assoc] using this
theorem Hs.bot12 {s0 s1 s2 s3 s4 s5 s6 s7 s8 s9 s10 s11 : HL} (h : Hs H (S ++ (s0 ++ (s1 ++ (s2 ++ (s3 ++ (s4 ++ (s5 ++ (s6 ++ (s7 ++ (s8 ++ (s9 ++ (s10 ++ (s11 ++ (R))))))))))))))) : Hs H (s0 ++ (s1 ++ (s2 ++ (s3 ++ (s4 ++ (s5 ++ (s6 ++ (s7 ++ (s8 ++ (s9 ++ (s10 ++ (s11 ++ (S ++ (R)))))))))))))) := by
  refine h.perm ?_
  have := List.perm_append_comm_assoc S (s0 ++ s1 ++ s2 ++ s3 ++ s4 ++ s5 ++ s6 ++ s7 ++ s8 ++ s9 ++ s10 ++ s11) R
  simpa only [List.append_assoc] using this
theorem Hs.get12 {s0 s1 s2 s3 s4 s5 s6 s7 s8 s9 s10 s11 : HL} (h : Hs H (s0 ++ (s1 ++ (s2 ++ (s3 ++ (s4 ++ (s5 ++ (s6 ++ (s7 ++ (s8 ++ (s9 ++ (s10 ++ (s11 ++ ([(n, b)] ++ (R))))))))))))))) : H.get n = b := h.top12.get
theorem Hs.mem12 {s0 s1 s2 s3 s4 s5 s6 s7 s8 s9 s10 s11 : HL} (h : Hs H (s0 ++ (s1 ++ (s2 ++ (s3 ++ (s4 ++ (s5 ++ (s6 ++ (s7 ++ (s8 ++ (s9 ++ (s10 ++ (s11 ++ (S ++ (R))))))))))))))) {m : Nat} {c : Option Blk} (hm : (m, c) ∈ S) : H.get m = c := h.top12.mem hm
theorem Hs.wr12 {s0 s1 s2 s3 s4 s5 s6 s7 s8 s9 s10 s11 : HL} {c : Blk} (h : Hs H (s0 ++ (s1 ++ (s2 ++ (s3 ++ (s4 ++ (s5 ++ (s6 ++ (s7 ++ (s8 ++ (s9 ++ (s10 ++ (s11 ++ ([(n, b)] ++ (R))))))))))))))) (k : Wr H n c H') : Hs H' (s0 ++ (s1 ++ (s2 ++ (s3 ++ (s4 ++ (s5 ++ (s6 ++ (s7 ++ (s8 ++ (s9 ++ (s10 ++ (s11 ++ ([(n, some c)] ++ (R)))))))))))))) := (h.top12.wr k).bot12
theorem Hs.drp12 {s0 s1 s2 s3 s4 s5 s6 s7 s8 s9 s10 s11 : HL} (h : Hs H (s0 ++ (s1 ++ (s2 ++ (s3 ++ (s4 ++ (s5 ++ (s6 ++ (s7 ++ (s8 ++ (s9 ++ (s10 ++ (s11 ++ ([(n, b)] ++ (R))))))))))))))) (k : Drp H n H') : Hs H' (s0 ++ (s1 ++ (s2 ++ (s3 ++ (s4 ++ (s5 ++ (s6 ++ (s7 ++ (s8 ++ (s9 ++ (s10 ++ (s11 ++ (R))))))))))))) := h.top12.drp k
theorem Hs.sub12 {s0 s1 s2 s3 s4 s5 s6 s7 s8 s9 s10 s11 : HL} (h : Hs H (s0 ++ (s1 ++ (s2 ++ (s3 ++ (s4 ++ (s5 ++ (s6 ++ (s7 ++ (s8 ++ (s9 ++ (s10 ++ (s11 ++ (S ++ (R))))))))))))))) : Hs H (s0 ++ (s1 ++ (s2 ++ (s3 ++ (s4 ++ (s5 ++ (s6 ++ (s7 ++ (s8 ++ (s9 ++ (s10 ++ (s11 ++ (R))))))))))))) := h.top12.sub
theorem Hs.cong12 {s0 s1 s2 s3 s4 s5 s6 s7 s8 s9 s10 s11 : HL} (h : Hs H (s0 ++ (s1 ++ (s2 ++ (s3 ++ (s4 ++ (s5 ++ (s6 ++ (s7 ++ (s8 ++ (s9 ++ (s10 ++ (s11 ++ (A ++ (R))))))))))))))) (e : A = B) : Hs H (s0 ++ (s1 ++ (s2 ++ (s3 ++ (s4 ++ (s5 ++ (s6 ++ (s7 ++ (s8 ++ (s9 ++ (s10 ++ (s11 ++ (B ++ (R)))))))))))))) := e ▸ h
theorem Hs.assoc12 {s0 s1 s2 s3 s4 s5 s6 s7 s8 s9 s10 s11 : HL} (h : Hs H (s0 ++ (s1 ++ (s2 ++ (s3 ++ (s4 ++ (s5 ++ (s6 ++ (s7 ++ (s8 ++ (s9 ++ (s10 ++ (s11 ++ ((A ++ B) ++ (R))))))))))))))) : Hs H (s0 ++ (s1 ++ (s2 ++ (s3 ++ (s4 ++ (s5 ++ (s6 ++ (s7 ++ (s8 ++ (s9 ++ (s10 ++ (s11 ++ (A ++ (B ++ (R))))))))))))))) := by rw [List.append_assoc] at h; exact h
theorem Hs.top13 {s0 s1 s2 s3 s4 s5 s6 s7 s8 s9 s10 s11 s12 : HL} (h : Hs H (s0 ++ (s1 ++ (s2 ++ (s3 ++ (s4 ++ (s5 ++ (s6 ++ (s7 ++ (s8 ++ (s9 ++ (s10 ++ (s11 ++ (s12 ++ (S ++ (R)))))))))))))))) : Hs H (S ++ (s0 ++ (s1 ++ (s2 ++ (s3 ++ (s4 ++ (s5 ++ (s6 ++ (s7 ++ (s8 ++ (s9 ++ (s10 ++ (s11 ++ (s12 ++ (R))))))))))))))) := by
  refine h.perm ?_
  have := List.perm_append_comm_assoc (s0 ++ s1 ++ s2 ++ s3 ++ s4 ++ s5 ++ s6 ++ s7 ++ s8 ++ s9 ++ s10 ++ s11 ++ s12) S R
  simpa only [List.append_assoc] using this
theorem Hs.bot13 {s0 s1 s2 s3 s4 s5 s6 s7 s8 s9 s10 s11 s12 : HL} (h : Hs H (S ++ (s0 ++ (s1 ++ (s2 ++ (s3 ++ (s4 ++ (s5 ++ (s6 ++ (s7 ++ (s8 ++ (s9 ++ (s10 ++ (s11 ++ (s12 ++ (R)))))))))))))))) : Hs H (s0 ++ (s1 ++ (s2 ++ (s3 ++ (s4 ++ (s5 ++ (s6 ++ (s7 ++ (s8 ++ (s9 ++ (s10 ++ (s11 ++ (s12 ++ (S ++ (R))))))))))))))) := by
  refine h.perm ?_
  have := List.perm_append_comm_assoc S (s0 ++ s1 ++ s2 ++ s3 ++ s4 ++ s5 ++ s6 ++ s7 ++ s8 ++ s9 ++ s10 ++ s11 ++ s12) R
  simpa only [List.append_assoc] using this
theorem Hs.get13 {s0 s1 s2 s3 s4 s5 s6 s7 s8 s9 s10 s11 s12 : HL} (h : Hs H (s0 ++ (s1 ++ (s2 ++ (s3 ++ (s4 ++ (s5 ++ (s6 ++ (s7 ++ (s8 ++ (s9 ++ (s10 ++ (s11 ++ (s12 ++ ([(n, b)] ++ (R)))))))))))))))) : H.get n = b := h.top13.get
theorem Hs.mem13 {s0 s1 s2 s3 s4 s5 s6 s7 s8 s9 s10 s11 s12 : HL} (h : Hs H (s0 ++ (s1 ++ (s2 ++ (s3 ++ (s4 ++ (s5 ++ (s6 ++ (s7 ++ (s8 ++ (s9 ++ (s10 ++ (s11 ++ (s12 ++ (S ++ (R)))))))))))))))) {m : Nat} {c : Option Blk} (hm : (m, c) ∈ S) : H.get m = c := h.top13.mem hm
theorem Hs.wr13 {s0 s1 s2 s3 s4 s5 s6 s7 s8 s9 s10 s11 s12 : HL} {c : Blk} (h : Hs H (s0 ++ (s1 ++ (s2 ++ (s3 ++ (s4 ++ (s5 ++ (s6 ++ (s7 ++ (s8 ++ (s9 ++ (s10 ++ (s11 ++ (s12 ++ ([(n, b)] ++ (R)))))))))))))))) (k : Wr H n c H') : Hs H' (s0 ++ (s1 ++ (s2 ++ (s3 ++ (s4 ++ (s5 ++ (s6 ++ (s7 ++ (s8 ++ (s9 ++ (s10 ++ (s11 ++ (s12 ++ ([(n, some c)] ++ (R))))))))))))))) := (h.top13.wr k).bot13
theorem Hs.drp13 {s0 s1 s2 s3 s4 s5 s6 s7 s8 s9 s10 s11 s12 : HL} (h : Hs H (s0 ++ (s1 ++ (s2 ++ (s3 ++ (s4 ++ (s5 ++ (s6 ++ (s7 ++ (s8 ++ (s9 ++ (s10 ++ (s11 ++ (s12 ++ ([(n, b)] ++ (R)))))))))))))))) (k : Drp H n H') : Hs H' (s0 ++ (s1 ++ (s2 ++ (s3 ++ (s4 ++ (s5 ++ (s6 ++ (s7 ++ (s8 ++ (s9 ++ (s10 ++ (s11 ++ (s12 ++ (R)))))))))))))) := h.top13.drp k
theorem Hs.sub13 {s0 s1 s2 s3 s4 s5 s6 s7 s8 s9 s10 s11 s12 : HL} (h : Hs H (s0 ++ (s1 ++ (s2 ++ (s3 ++ (s4 ++ (s5 ++ (s6 ++ (s7 ++ (s8 ++ (s9 ++ (s10 ++ (s11 ++ (s12 ++ (S ++ (R)))))))))))))))) : Hs H (s0 ++ (s1 ++ (s2 ++ (s3 ++ (s4 ++ (s5 ++ (s6 ++ (s7 ++ (s8 ++ (s9 ++ (s10 ++ (s11 ++ (s12 ++ (R)))))))))))))) := h.top13.sub
theorem Hs.cong13 {s0 s1 s2 s3 s4 s5 s6 s7 s8 s9 s10 s11 s12 : HL} (h : Hs H (s0 ++ (s1 ++ (s2 ++ (s3 ++ (s4 ++ (s5 ++ (s6 ++ (s7 ++ (s8 ++ (s9 ++ (s10 ++ (s11 ++ (s12 ++ (A ++ (R)))))))))))))))) (e : A = B) : Hs H (s0 ++ (s1 ++ (s2 ++ (s3 ++ (s4 ++ (s5 ++ (s6 ++ (s7 ++ (s8 ++ (s9 ++ (s10 ++ (s11 ++ (s12 ++ (B ++ (R))))))))))))))) := e ▸ h
theorem Hs.assoc13 {s0 s1 s2 s3 s4 s5 s6 s7 s8 s9 s10 s11 s12 : HL} (h : Hs H (s0 ++ (s1 ++ (s2 ++ (s3 ++ (s4 ++ (s5 ++ (s6 ++ (s7 ++ (s8 ++ (s9 ++ (s10 ++ (s11 ++ (s12 ++ ((A ++ B) ++ (R)))))))))))))))) : Hs H (s0 ++ (s1 ++ (s2 ++ (s3 ++ (s4 ++ (s5 ++ (s6 ++ (s7 ++ (s8 ++ (s9 ++ (s10 ++ (s11 ++ (s12 ++ (A ++ (B ++ (R)))))))))))))))) := by rw [List.append_assoc] at h; exact h
theorem Hs.top14 {s0 s1 s2 s3 s4 s5 s6 s7 s8 s9 s10 s11 s12 s13 : HL} (h : Hs H (s0 ++ (s1 ++ (s2 ++ (s3 ++ (s4 ++ (s5 ++ (s6 ++ (s7 ++ (s8 ++ (s9 ++ (s10 ++ (s11 ++ (s12 ++ (s13 ++ (S ++ (R))))))))))))))))) : Hs H (S ++ (s0 ++ (s1 ++ (s2 ++ (s3 ++ (s4 ++ (s5 ++ (s6 ++ (s7 ++ (s8 ++ (s9 ++ (s10 ++ (s11 ++ (s12 ++ (s13 ++ (R)))))))))))))))) := by
  refine h.perm ?_
  have := List.perm_append_comm_assoc (s0 ++ s1 ++ s2 ++ s3 ++ s4 ++ s5 ++ s6 ++ s7 ++ s8 ++ s9 ++ s10 ++ s11 ++ s12 ++ s13) S R
  simpa only [List.append_assoc] using this
theorem Hs.bot14 {s0 s1 s2 s3 s4 s5 s6 s7 s8 s9 s10 s11 s12 s13 : HL} (h : Hs H (S ++ (s0 ++ (s1 ++ (s2 ++ (s3 ++ (s4 ++ (s5 ++ (s6 ++ (s7 ++ (s8 ++ (s9 ++ (s10 ++ (s11 ++ (s12 ++ (s13 ++ (R))))))))))))))))) : Hs H (s0 ++ (s1 ++ (s2 ++ (s3 ++ (s4 ++ (s5 ++ (s6 ++ (s7 ++ (s8 ++ (s9 ++ (s10 ++ (s11 ++ (s12 ++ (s13 ++ (S ++ (R)))))))))))))))) := by
  refine h.perm ?_
  have := List.perm_append_comm_assoc S (s0 ++ s1 ++ s2 ++ s3 ++ s4 ++ s5 ++ s6 ++ s7 ++ s8 ++ s9 ++ s10 ++ s11 ++ s12 ++ s13) R
  simpa only [List.append_assoc] using this
theorem Hs.get14 {s0 s1 s2 s3 s4 s5 s6 s7 s8 s9 s10 s11 s12 s13 : HL} (h : Hs H (s0 ++ (s1 ++ (s2 ++ (s3 ++ (s4 ++ (s5 ++ (s6 ++ (s7 ++ (s8 ++ (s9 ++ (s10 ++ (s11 ++ (s12 ++ (s13 ++ ([(n, b)] ++ (R))))))))))))))))) : H.get n = b := h.top14.get
theorem Hs.mem14 {s0 s1 s2 s3 s4 s5 s6 s7 s8 s9 s10 s11 s12 s13 : HL} (h : Hs H (s0 ++ (s1 ++ (s2 ++ (s3 ++ (s4 ++ (s5 ++ (s6 ++ (s7 ++ (s8 ++ (s9 ++ (s10 ++ (s11 ++ (s12 ++ (s13 ++ (S ++ (R))))))))))))))))) {m : Nat} {c : Option Blk} (hm : (m, c) ∈ S) : H.get m = c := h.top14.mem hm
theorem Hs.wr14 {s0 s1 s2 s3 s4 s5 s6 s7 s8 s9 s10 s11 s12 s13 : HL} {c : Blk} (h : Hs H (s0 ++ (s1 ++ (s2 ++ (s3 ++ (s4 ++ (s5 ++ (s6 ++ (s7 ++ (s8 ++ (s9 ++ (s10 ++ (s11 ++ (s12 ++ (s13 ++ ([(n, b)] ++ (R))))))))))))))))) (k : Wr H n c H') : Hs H' (s0 ++ (s1 ++ (s2 ++ (s3 ++ (s4 ++ (s5 ++ (s6 ++ (s7 ++ (s8 ++ (s9 ++ (s10 ++ (s11 ++ (s12 ++ (s13 ++ ([(n, some c)] ++ (R)))))))))))))))) := (h.top14.wr k).bot14
theorem Hs.drp14 {s0 s1 s2 s3 s4 s5 s6 s7 s8 s9 s10 s11 s12 s13 : HL} (h : Hs H (s0 ++ (s1 ++ (s2 ++ (s3 ++ (s4 ++ (s5 ++ (s6 ++ (s7 ++ (s8 ++ (s9 ++ (s10 ++ (s11 ++ (s12 ++ (s13 ++ ([(n, b)] ++ (R))))))))))))))))) (k : Drp H n H') : Hs H' (s0 ++ (s1 ++ (s2 ++ (s3 ++ (s4 ++ (s5 ++ (s6 ++ (s7 ++ (s8 ++ (s9 ++ (s10 ++ (s11 ++ (s12 ++ (s13 ++ (R))))))))))))))) := h.top14.drp k
theorem Hs.sub14 {s0 s1 s2 s3 s4 s5 s6 s7 s8 s9 s10 s11 s12 s13 : HL} (h : Hs H (s0 ++ (s1 ++ (s2 ++ (s3 ++ (s4 ++ (s5 ++ (s6 ++ (s7 ++ (s8 ++ (s9 ++ (s10 ++ (s11 ++ (s12 ++ (s13 ++ (S ++ (R))))))))))))))))) : Hs H (s0 ++ (s1 ++ (s2 ++ (s3 ++ (s4 ++ (s5 ++ (s6 ++ (s7 ++ (s8 ++ (s9 ++ (s10 ++ (s11 ++ (s12 ++ (s13 ++ (R))))))))))))))) := h.top14.sub
theorem Hs.cong14 {s0 s1 s2 s3 s4 s5 s6 s7 s8 s9 s10 s11 s12 s13 : HL} (h : Hs H (s0 ++ (s1 ++ (s2 ++ (s3 ++ (s4 ++ (s5 ++ (s6 ++ (s7 ++ (s8 ++ (s9 ++ (s10 ++ (s11 ++ (s12 ++ (s13 ++ (A ++ (R))))))))))))))))) (e : A = B) : Hs H (s0 ++ (s1 ++ (s2 ++ (s3 ++ (s4 ++ (s5 ++ (s6 ++ (s7 ++ (s8 ++ (s9 ++ (s10 ++ (s11 ++ (s12 ++ (s13 ++ (B ++ (R)))))))))))))))) := e ▸ h
theorem Hs.assoc14 {s0 s1 s2 s3 s4 s5 s6 s7 s8 s9 s10 s11 s12 s13 : HL} (h : Hs H (s0 ++ (s1 ++ (s2 ++ (s3 ++ (s4 ++ (s5 ++ (s6 ++ (s7 ++ (s8 ++ (s9 ++ (s10 ++ (s11 ++ (s12 ++ (s13 ++ ((A ++ B) ++ (R))))))))))))))))) : Hs H (s0 ++ (s1 ++ (s2 ++ (s3 ++ (s4 ++ (s5 ++ (s6 ++ (s7 ++ (s8 ++ (s9 ++ (s10 ++ (s11 ++ (s12 ++ (s13 ++ (A ++ (B ++ (R))))))))))))))))) := by rw [List.append_assoc] at h; exact h
theorem Hs.top15 {s0 s1 s2 s3 s4 s5 s6 s7 s8 s9 s10 s11 s12 s13 s14 : HL} (h : Hs H (s0 ++ (s1 ++ (s2 ++ (s3 ++ (s4 ++ (s5 ++ (s6 ++ (s7 ++ (s8 ++ (s9 ++ (s10 ++ (s11 ++ (s12 ++ (s13 ++ (s14 ++ (S ++ (R)))))))))))))))))) : Hs H (S ++ (s0 ++ (s1 ++ (s2 ++ (s3 ++ (s4 ++ (s5 ++ (s6 ++ (s7 ++ (s8 ++ (s9 ++ (s10 ++ (s11 ++ (s12 ++ (s13 ++ (s14 ++ (R))))))))))))))))) := by
  refine h.perm ?_
  have := List.perm_append_comm_assoc (s0 ++ s1 ++ s2 ++ s3 ++ s4 ++ s5 ++ s6 ++ s7 ++ s8 ++ s9 ++ s10 ++ s11 ++ s12 ++ s13 ++ s14) S R
  simpa only [List.append_assoc] using this
theorem Hs.bot15 {s0 s1 s2 s3 s4 s5 s6 s7 s8 s9 s10 s11 s12 s13 s14 : HL} (h : Hs H (S ++ (s0 ++ (s1 ++ (s2 ++ (s3 ++ (s4 ++ (s5 ++ (s6 ++ (s7 ++ (s8 ++ (s9 ++ (s10 ++ (s11 ++ (s12 ++ (s13 ++ (s14 ++ (R)))))))))))))))))) : Hs H (s0 ++ (s1 ++ (s2 ++ (s3 ++ (s4 ++ (s5 ++ (s6 ++ (s7 ++ (s8 ++ (s9 ++ (s10 ++ (s11 ++ (s12 ++ (s13 ++ (s14 ++ (S ++ (R))))))))))))))))) := by
  refine h.perm ?_
  have := List.perm_append_comm_assoc S (s0 ++ s1 ++ s2 ++ s3 ++ s4 ++ s5 ++ s6 ++ s7 ++ s8 ++ s9 ++ s10 ++ s11 ++ s12 ++ s13 ++ s14) R
  simpa only [List.append_assoc] using this
theorem Hs.get15 {s0 s1 s2 s3 s4 s5 s6 s7 s8 s9 s10 s11 s12 s13 s14 : HL} (h : Hs H (s0 ++ (s1 ++ (s2 ++ (s3 ++ (s4 ++ (s5 ++ (s6 ++ (s7 ++ (s8 ++ (s9 ++ (s10 ++ (s11 ++ (s12 ++ (s13 ++ (s14 ++ ([(n, b)] ++ (R)))))))))))))))))) : H.get n = b := h.top15.get
theorem Hs.mem15 {s0 s1 s2 s3 s4 s5 s6 s7 s8 s9 s10 s11 s12 s13 s14 : HL} (h : Hs H (s0 ++ (s1 ++ (s2 ++ (s3 ++ (s4 ++ (s5 ++ (s6 ++ (s7 ++ (s8 ++ (s9 ++ (s10 ++ (s11 ++ (s12 ++ (s13 ++ (s14 ++ (S ++ (R)))))))))))))))))) {m : Nat} {c : Option Blk} (hm : (m, c) ∈ S) : H.get m = c := h.top15.mem hm
theorem Hs.wr15 {s0 s1 s2 s3 s4 s5 s6 s7 s8 s9 s10 s11 s12 s13 s14 : HL} {c : Blk} (h : Hs H (s0 ++ (s1 ++ (s2 ++ (s3 ++ (s4 ++ (s5 ++ (s6 ++ (s7 ++ (s8 ++ (s9 ++ (s10 ++ (s11 ++ (s12 ++ (s13 ++ (s14 ++ ([(n, b)] ++ (R)))))))))))))))))) (k : Wr H n c H') : Hs H' (s0 ++ (s1 ++ (s2 ++ (s3 ++ (s4 ++ (s5 ++ (s6 ++ (s7 ++ (s8 ++ (s9 ++ (s10 ++ (s11 ++ (s12 ++ (s13 ++ (s14 ++ ([(n, some c)] ++ (R))))))))))))))))) := (h.top15.wr k).bot15
theorem Hs.drp15 {s0 s1 s2 s3 s4 s5 s6 s7 s8 s9 s10 s11 s12 s13 s14 : HL} (h : Hs H (s0 ++ (s1 ++ (s2 ++ (s3 ++ (s4 ++ (s5 ++ (s6 ++ (s7 ++ (s8 ++ (s9 ++ (s10 ++ (s11 ++ (s12 ++ (s13 ++ (s14 ++ ([(n, b)] ++ (R)))))))))))))))))) (k : Drp H n H') : Hs H' (s0 ++ (s1 ++ (s2 ++ (s3 ++ (s4 ++ (s5 ++ (s6 ++ (s7 ++ (s8 ++ (s9 ++ (s10 ++ (s11 ++ (s12 ++ (s13 ++ (s14 ++ (R)))))))))))))))) := h.top15.drp k
theorem Hs.sub15 {s0 s1 s2 s3 s4 s5 s6 s7 s8 s9 s10 s11 s12 s13 s14 : HL} (h : Hs H (s0 ++ (s1 ++ (s2 ++ (s3 ++ (s4 ++ (s5 ++ (s6 ++ (s7 ++ (s8 ++ (s9 ++ (s10 ++ (s11 ++ (s12 ++ (s13 ++ (s14 ++ (S ++ (R)))))))))))))))))) : Hs H (s0 ++ (s1 ++ (s2 ++ (s3 ++ (s4 ++ (s5 ++ (s6 ++ (s7 ++ (s8 ++ (s9 ++ (s10 ++ (s11 ++ (s12 ++ (s13 ++ (s14 ++ (R)))))))))))))))) := h.top15.sub
theorem Hs.cong15 {s0 s1 s2 s3 s4 s5 s6 s7 s8 s9 s10 s11 s12 s13 s14 : HL} (h : Hs H (s0 ++ (s1 ++ (s2 ++ (s3 ++ (s4 ++ (s5 ++ (s6 ++ (s7 ++ (s8 ++ (s9 ++ (s10 ++ (s11 ++ (s12 ++ (s13 ++ (s14 ++ (A ++ (R)))))))))))))))))) (e : A = B) : Hs H (s0 ++ (s1 ++ (s2 ++ (s3 ++ (s4 ++ (s5 ++ (s6 ++ (s7 ++ (s8 ++ (s9 ++ (s10 ++ (s11 ++ (s12 ++ (s13 ++ (s14 ++ (B ++ (R))))))))))))))))) := e ▸ h
theorem Hs.assoc15 {s0 s1 s2 s3 s4 s5 s6 s7 s8 s9 s10 s11 s12 s13 s14 : HL} (h : Hs H (s0 ++ (s1 ++ (s2 ++ (s3 ++ (s4 ++ (s5 ++ (s6 ++ (s7 ++ (s8 ++ (s9 ++ (s10 ++ (s11 ++ (s12 ++ (s13 ++ (s14 ++ ((A ++ B) ++ (R)))))))))))))))))) : Hs H (s0 ++ (s1 ++ (s2 ++ (s3 ++ (s4 ++ (s5 ++ (s6 ++ (s7 ++ (s8 ++ (s9 ++ (s10 ++ (s11 ++ (s12 ++ (s13 ++ (s14 ++ (A ++ (B ++ (R)))))))))))))))))) := by rw [List.append_assoc] at h; exact h
theorem Hs.top16 {s0 s1 s2 s3 s4 s5 s6 s7 s8 s9 s10 s11 s12 s13 s14 s15 : HL} (h : Hs H (s0 ++ (s1 ++ (s2 ++ (s3 ++ (s4 ++ (s5 ++ (s6 ++ (s7 ++ (s8 ++ (s9 ++ (s10 ++ (s11 ++ (s12 ++ (s13 ++ (s14 ++ (s15 ++ (S ++ (R))))))))))))))))))) : Hs H (S ++ (s0 ++ (s1 ++ (s2 ++ (s3 ++ (s4 ++ (s5 ++ (s6 ++ (s7 ++ (s8 ++ (s9 ++ (s10 ++ (s11 ++ (s12 ++ (s13 ++ (s14 ++ (s15 ++ (R)))))))))))))))))) := by
  refine h.perm ?_
  have := List.perm_append_comm_assoc (s0 ++ s1 ++ s2 ++ s3 ++ s4 ++ s5 ++ s6 ++ s7 ++ s8 ++ s9 ++ s10 ++ s11 ++ s12 ++ s13 ++ s14 ++ s15) S R
  simpa only [List.append_assoc] using this
theorem Hs.bot16 {s0 s1 s2 s3 s4 s5 s6 s7 s8 s9 s10 s11 s12 s13 s14 s15 : HL} (h : Hs H (S ++ (s0 ++ (s1 ++ (s2 ++ (s3 ++ (s4 ++ (s5 ++ (s6 ++ (s7 ++ (s8 ++ (s9 ++ (s10 ++ (s11 ++ (s12 ++ (s13 ++ (s14 ++ (s15 ++ (R))))))))))))))))))) : Hs H (s0 ++ (s1 ++ (s2 ++ (s3 ++ (s4 ++ (s5 ++ (s6 ++ (s7 ++ (s8 ++ (s9 ++ (s10 ++ (s11 ++ (s12 ++ (s13 ++ (s14 ++ (s15 ++ (S ++ (R)))))))))))))))))) := by
  refine h.perm ?_
  have := List.perm_append_comm_assoc S (s0 ++ s1 ++ s2 ++ s3 ++ s4 ++ s5 ++ s6 ++ s7 ++ s8 ++ s9 ++ s10 ++ s11 ++ s12 ++ s13 ++ s14 ++ s15) R
  simpa only [List.append_assoc] using this
theorem Hs.get16 {s0 s1 s2 s3 s4 s5 s6 s7 s8 s9 s10 s11 s12 s13 s14 s15 : HL} (h : Hs H (s0 ++ (s1 ++ (s2 ++ (s3 ++ (s4 ++ (s5 ++ (s6 ++ (s7 ++ (s8 ++ (s9 ++ (s10 ++ (s11 ++ (s12 ++ (s13 ++ (s14 ++ (s15 ++ ([(n, b)] ++ (R))))))))))))))))))) : H.get n = b := h.top16.get
theorem Hs.mem16 {s0 s1 s2 s3 s4 s5 s6 s7 s8 s9 s10 s11 s12 s13 s14 s15 : HL} (h : Hs H (s0 ++ (s1 ++ (s2 ++ (s3 ++ (s4 ++ (s5 ++ (s6 ++ (s7 ++ (s8 ++ (s9 ++ (s10 ++ (s11 ++ (s12 ++ (s13 ++ (s14 ++ (s15 ++ (S ++ (R))))))))))))))))))) {m : Nat} {c : Option Blk} (hm : (m, c) ∈ S) : H.get m = c := h.top16.mem hm
theorem Hs.wr16 {s0 s1 s2 s3 s4 s5 s6 s7 s8 s9 s10 s11 s12 s13 s14 s15 : HL} {c : Blk} (h : Hs H (s0 ++ (s1 ++ (s2 ++ (s3 ++ (s4 ++ (s5 ++ (s6 ++ (s7 ++ (s8 ++ (s9 ++ (s10 ++ (s11 ++ (s12 ++ (s13 ++ (s14 ++ (s15 ++ ([(n, b)] ++ (R))))))))))))))))))) (k : Wr H n c H') : Hs H' (s0 ++ (s1 ++ (s2 ++ (s3 ++ (s4 ++ (s5 ++ (s6 ++ (s7 ++ (s8 ++ (s9 ++ (s10 ++ (s11 ++ (s12 ++ (s13 ++ (s14 ++ (s15 ++ ([(n, some c)] ++ (R)))))))))))))))))) := (h.top16.wr k).bot16
theorem Hs.drp16 {s0 s1 s2 s3 s4 s5 s6 s7 s8 s9 s10 s11 s12 s13 s14 s15 : HL} (h : Hs H (s0 ++ (s1 ++ (s2 ++ (s3 ++ (s4 ++ (s5 ++ (s6 ++ (s7 ++ (s8 ++ (s9 ++ (s10 ++ (s11 ++ (s12 ++ (s13 ++ (s14 ++ (s15 ++ ([(n, b)] ++ (R))))))))))))))))))) (k : Drp H n H') : Hs H' (s0 ++ (s1 ++ (s2 ++ (s3 ++ (s4 ++ (s5 ++ (s6 ++ (s7 ++ (s8 ++ (s9 ++ (s10 ++ (s11 ++ (s12 ++ (s13 ++ (s14 ++ (s15 ++ (R))))))))))))))))) := h.top16.drp k
theorem Hs.sub16 {s0 s1 s2 s3 s4 s5 s6 s7 s8 s9 s10 s11 s12 s13 s14 s15 : HL} (h : Hs H (s0 ++ (s1 ++ (s2 ++ (s3 ++ (s4 ++ (s5 ++ (s6 ++ (s7 ++ (s8 ++ (s9 ++ (s10 ++ (s11 ++ (s12 ++ (s13 ++ (s14 ++ (s15 ++ (S ++ (R))))))))))))))))))) : Hs H (s0 ++ (s1 ++ (s2 ++ (s3 ++ (s4 ++ (s5 ++ (s6 ++ (s7 ++ (s8 ++ (s9 ++ (s10 ++ (s11 ++ (s12 ++ (s13 ++ (s14 ++ (s15 ++ (R))))))))))))))))) := h.top16.sub
theorem Hs.cong16 {s0 s1 s2 s3 s4 s5 s6 s7 s8 s9 s10 s11 s12 s13 s14 s15 : HL} (h : Hs H (s0 ++ (s1 ++ (s2 ++ (s3 ++ (s4 ++ (s5 ++ (s6 ++ (s7 ++ (s8 ++ (s9 ++ (s10 ++ (s11 ++ (s12 ++ (s13 ++ (s14 ++ (s15 ++ (A ++ (R))))))))))))))))))) (e : A = B) : Hs H (s0 ++ (s1 ++ (s2 ++ (s3 ++ (s4 ++ (s5 ++ (s6 ++ (s7 ++ (s8 ++ (s9 ++ (s10 ++ (s11 ++ (s12 ++ (s13 ++ (s14 ++ (s15 ++ (B ++ (R)))))))))))))))))) := e ▸ h
theorem Hs.assoc16 {s0 s1 s2 s3 s4 s5 s6 s7 s8 s9 s10 s11 s12 s13 s14 s15 : HL} (h : Hs H (s0 ++ (s1 ++ (s2 ++ (s3 ++ (s4 ++ (s5 ++ (s6 ++ (s7 ++ (s8 ++ (s9 ++ (s10 ++ (s11 ++ (s12 ++ (s13 ++ (s14 ++ (s15 ++ ((A ++ B) ++ (R))))))))))))))))))) : Hs H (s0 ++ (s1 ++ (s2 ++ (s3 ++ (s4 ++ (s5 ++ (s6 ++ (s7 ++ (s8 ++ (s9 ++ (s10 ++ (s11 ++ (s12 ++ (s13 ++ (s14 ++ (s15 ++ (A ++ (B ++ (R))))))))))))))))))) := by rw [List.append_assoc] at h; exact h
theorem Hs.top17 {s0 s1 s2 s3 s4 s5 s6 s7 s8 s9 s10 s11 s12 s13 s14 s15 s16 : HL} (h : Hs H (s0 ++ (s1 ++ (s2 ++ (s3 ++ (s4 ++ (s5 ++ (s6 ++ (s7 ++ (s8 ++ (s9 ++ (s10 ++ (s11 ++ (s12 ++ (s13 ++ (s14 ++ (s15 ++ (s16 ++ (S ++ (R)))))))))))))))))))) : Hs H (S ++ (s0 ++ (s1 ++ (s2 ++ (s3 ++ (s4 ++ (s5 ++ (s6 ++ (s7 ++ (s8 ++ (s9 ++ (s10 ++ (s11 ++ (s12 ++ (s13 ++ (s14 ++ (s15 ++ (s16 ++ (R))))))))))))))))))) := by
  refine h.perm ?_
  have := List.perm_append_comm_assoc (s0 ++ s1 ++ s2 ++ s3 ++ s4 ++ s5 ++ s6 ++ s7 ++ s8 ++ s9 ++ s10 ++ s11 ++ s12 ++ s13 ++ s14 ++ s15 ++ s16) S R
  simpa only [List.append_assoc] using this
theorem Hs.bot17 {s0 s1 s2 s3 s4 s5 s6 s7 s8 s9 s10 s11 s12 s13 s14 s15 s16 : HL} (h : Hs H (S ++ (s0 ++ (s1 ++ (s2 ++ (s3 ++ (s4 ++ (s5 ++ (s6 ++ (s7 ++ (s8 ++ (s9 ++ (s10 ++ (s11 ++ (s12 ++ (s13 ++ (s14 ++ (s15 ++ (s16 ++ (R)))))))))))))))))))) : Hs H (s0 ++ (s1 ++ (s2 ++ (s3 ++ (s4 ++ (s5 ++ (s6 ++ (s7 ++ (s8 ++ (s9 ++ (s10 ++ (s11 ++ (s12 ++ (s13 ++ (s14 ++ (s15 ++ (s16 ++ (S ++ (R))))))))))))))))))) := by
  refine h.perm ?_
  have := List.perm_append_comm_assoc S (s0 ++ s1 ++ s2 ++ s3 ++ s4 ++ s5 ++ s6 ++ s7 ++ s8 ++ s9 ++ s10 ++ s11 ++ s12 ++ s13 ++ s14 ++ s15 ++ s16) R
  simpa only [List.append_assoc] using this
theorem Hs.get17 {s0 s1 s2 s3 s4 s5 s6 s7 s8 s9 s10 s11 s12 s13 s14 s15 s16 : HL} (h : Hs H (s0 ++ (s1 ++ (s2 ++ (s3 ++ (s4 ++ (s5 ++ (s6 ++ (s7 ++ (s8 ++ (s9 ++ (s10 ++ (s11 ++ (s12 ++ (s13 ++ (s14 ++ (s15 ++ (s16 ++ ([(n, b)] ++ (R)))))))))))))))))))) : H.get n = b := h.top17.get
theorem Hs.mem17 {s0 s1 s2 s3 s4 s5 s6 s7 s8 s9 s10 s11 s12 s13 s14 s15 s16 : HL} (h : Hs H (s0 ++ (s1 ++ (s2 ++ (s3 ++ (s4 ++ (s5 ++ (s6 ++ (s7 ++ (s8 ++ (s9 ++ (s10 ++ (s11 ++ (s12 ++ (s13 ++ (s14 ++ (s15 ++ (s16 ++ (S ++ (R)))))))))))))))))))) {m : Nat} {c : Option Blk} (hm : (m, c) ∈ S) : H.get m = c := h.top17.mem hm
theorem Hs.wr17 {s0 s1 s2 s3 s4 s5 s6 s7 s8 s9 s10 s11 s12 s13 s14 s15 s16 : HL} {c : Blk} (h : Hs H (s0 ++ (s1 ++ (s2 ++ (s3 ++ (s4 ++ (s5 ++ (s6 ++ (s7 ++ (s8 ++ (s9 ++ (s10 ++ (s11 ++ (s12 ++ (s13 ++ (s14 ++ (s15 ++ (s16 ++ ([(n, b)] ++ (R)))))))))))))))))))) (k : Wr H n c H') : Hs H' (s0 ++ (s1 ++ (s2 ++ (s3 ++ (s4 ++ (s5 ++ (s6 ++ (s7 ++ (s8 ++ (s9 ++ (s10 ++ (s11 ++ (s12 ++ (s13 ++ (s14 ++ (s15 ++ (s16 ++ ([(n, some c)] ++ (R))))))))))))))))))) := (h.top17.wr k).bot17
theorem Hs.drp17 {s0 s1 s2 s3 s4 s5 s6 s7 s8 s9 s10 s11 s12 s13 s14 s15 s16 : HL} (h : Hs H (s0 ++ (s1 ++ (s2 ++ (s3 ++ (s4 ++ (s5 ++ (s6 ++ (s7 ++ (s8 ++ (s9 ++ (s10 ++ (s11 ++ (s12 ++ (s13 ++ (s14 ++ (s15 ++ (s16 ++ ([(n, b)] ++ (R)))))))))))))))))))) (k : Drp H n H') : Hs H' (s0 ++ (s1 ++ (s2 ++ (s3 ++ (s4 ++ (s5 ++ (s6 ++ (s7 ++ (s8 ++ (s9 ++ (s10 ++ (s11 ++ (s12 ++ (s13 ++ (s14 ++ (s15 ++ (s16 ++ (R)))))))))))))))))) := h.top17.drp k
theorem Hs.sub17 {s0 s1 s2 s3 s4 s5 s6 s7 s8 s9 s10 s11 s12 s13 s14 s15 s16 : HL} (h : Hs H (s0 ++ (s1 ++ (s2 ++ (s3 ++ (s4 ++ (s5 ++ (s6 ++ (s7 ++ (s8 ++ (s9 ++ (s10 ++ (s11 ++ (s12 ++ (s13 ++ (s14 ++ (s15 ++ (s16 ++ (S ++ (R)))))))))))))))))))) : Hs H (s0 ++ (s1 ++ (s2 ++ (s3 ++ (s4 ++ (s5 ++ (s6 ++ (s7 ++ (s8 ++ (s9 ++ (s10 ++ (s11 ++ (s12 ++ (s13 ++ (s14 ++ (s15 ++ (s16 ++ (R)))))))))))))))))) := h.top17.sub
theorem Hs.cong17 {s0 s1 s2 s3 s4 s5 s6 s7 s8 s9 s10 s11 s12 s13 s14 s15 s16 : HL} (h : Hs H (s0 ++ (s1 ++ (s2 ++ (s3 ++ (s4 ++ (s5 ++ (s6 ++ (s7 ++ (s8 ++ (s9 ++ (s10 ++ (s11 ++ (s12 ++ (s13 ++ (s14 ++ (s15 ++ (s16 ++ (A ++ (R)))))))))))))))))))) (e : A = B) : Hs H (s0 ++ (s1 ++ (s2 ++ (s3 ++ (s4 ++ (s5 ++ (s6 ++ (s7 ++ (s8 ++ (s9 ++ (s10 ++ (s11 ++ (s12 ++ (s13 ++ (s14 ++ (s15 ++ (s16 ++ (B ++ (R))))))))))))))))))) := e ▸ h
theorem Hs.assoc17 {s0 s1 s2 s3 s4 s5 s6 s7 s8 s9 s10 s11 s12 s13 s14 s15 s16 : HL} (h : Hs H (s0 ++ (s1 ++ (s2 ++ (s3 ++ (s4 ++ (s5 ++ (s6 ++ (s7 ++ (s8 ++ (s9 ++ (s10 ++ (s11 ++ (s12 ++ (s13 ++ (s14 ++ (s15 ++ (s16 ++ ((A ++ B) ++ (R)))))))))))))))))))) : Hs H (s0 ++ (s1 ++ (s2 ++ (s3 ++ (s4 ++ (s5 ++ (s6 ++ (s7 ++ (s8 ++ (s9 ++ (s10 ++ (s11 ++ (s12 ++ (s13 ++ (s14 ++ (s15 ++ (s16 ++ (A ++ (B ++ (R)))))))))))))))))))) := by rw [List.append_assoc] at h; exact h
theorem Hs.top18 {s0 s1 s2 s3 s4 s5 s6 s7 s8 s9 s10 s11 s12 s13 s14 s15 s16 s17 : HL} (h : Hs H (s0 ++ (s1 ++ (s2 ++ (s3 ++ (s4 ++ (s5 ++ (s6 ++ (s7 ++ (s8 ++ (s9 ++ (s10 ++ (s11 ++ (s12 ++ (s13 ++ (s14 ++ (s15 ++ (s16 ++ (s17 ++ (S ++ (R))))))))))))))))))))) : Hs H (S ++ (s0 ++ (s1 ++ (s2 ++ (s3 ++ (s4 ++ (s5 ++ (s6 ++ (s7 ++ (s8 ++ (s9 ++ (s10 ++ (s11 ++ (s12 ++ (s13 ++ (s14 ++ (s15 ++ (s16 ++ (s17 ++ (R)))))))))))))))))))) := by
  refine h.perm ?_
  have := List.perm_append_comm_assoc (s0 ++ s1 ++ s2 ++ s3 ++ s4 ++ s5 ++ s6 ++ s7 ++ s8 ++ s9 ++ s10 ++ s11 ++ s12 ++ s13 ++ s14 ++ s15 ++ s16 ++ s17) S R
  simpa only [List.append_assoc] using this
theorem Hs.bot18 {s0 s1 s2 s3 s4 s5 s6 s7 s8 s9 s10 s11 s12 s13 s14 s15 s16 s17 : HL} (h : Hs H (S ++ (s0 ++ (s1 ++ (s2 ++ (s3 ++ (s4 ++ (s5 ++ (s6 ++ (s7 ++ (s8 ++ (s9 ++ (s10 ++ (s11 ++ (s12 ++ (s13 ++ (s14 ++ (s15 ++ (s16 ++ (s17 ++ (R))))))))))))))))))))) : Hs H (s0 ++ (s1 ++ (s2 ++ (s3 ++ (s4 ++ (s5 ++ (s6 ++ (s7 ++ (s8 ++ (s9 ++ (s10 ++ (s11 ++ (s12 ++ (s13 ++ (s14 ++ (s15 ++ (s16 ++ (s17 ++ (S ++ (R)))))))))))))))))))) := by
  refine h.perm ?_
  have := List.perm_append_comm_assoc S (s0 ++ s1 ++ s2 ++ s3 ++ s4 ++ s5 ++ s6 ++ s7 ++ s8 ++ s9 ++ s10 ++ s11 ++ s12 ++ s13 ++ s14 ++ s15 ++ s16 ++ s17) R
  simpa only [List.append_assoc] using this
theorem Hs.get18 {s0 s1 s2 s3 s4 s5 s6 s7 s8 s9 s10 s11 s12 s13 s14 s15 s16 s17 : HL} (h : Hs H (s0 ++ (s1 ++ (s2 ++ (s3 ++ (s4 ++ (s5 ++ (s6 ++ (s7 ++ (s8 ++ (s9 ++ (s10 ++ (s11 ++ (s12 ++ (s13 ++ (s14 ++ (s15 ++ (s16 ++ (s17 ++ ([(n, b)] ++ (R))))))))))))))))))))) : H.get n = b := h.top18.get
theorem Hs.mem18 {s0 s1 s2 s3 s4 s5 s6 s7 s8 s9 s10 s11 s12 s13 s14 s15 s16 s17 : HL} (h : Hs H (s0 ++ (s1 ++ (s2 ++ (s3 ++ (s4 ++ (s5 ++ (s6 ++ (s7 ++ (s8 ++ (s9 ++ (s10 ++ (s11 ++ (s12 ++ (s13 ++ (s14 ++ (s15 ++ (s16 ++ (s17 ++ (S ++ (R))))))))))))))))))))) {m : Nat} {c : Option Blk} (hm : (m, c) ∈ S) : H.get m = c := h.top18.mem hm
theorem Hs.wr18 {s0 s1 s2 s3 s4 s5 s6 s7 s8 s9 s10 s11 s12 s13 s14 s15 s16 s17 : HL} {c : Blk} (h : Hs H (s0 ++ (s1 ++ (s2 ++ (s3 ++ (s4 ++ (s5 ++ (s6 ++ (s7 ++ (s8 ++ (s9 ++ (s10 ++ (s11 ++ (s12 ++ (s13 ++ (s14 ++ (s15 ++ (s16 ++ (s17 ++ ([(n, b)] ++ (R))))))))))))))))))))) (k : Wr H n c H') : Hs H' (s0 ++ (s1 ++ (s2 ++ (s3 ++ (s4 ++ (s5 ++ (s6 ++ (s7 ++ (s8 ++ (s9 ++ (s10 ++ (s11 ++ (s12 ++ (s13 ++ (s14 ++ (s15 ++ (s16 ++ (s17 ++ ([(n, some c)] ++ (R)))))))))))))))))))) := (h.top18.wr k).bot18
theorem Hs.drp18 {s0 s1 s2 s3 s4 s5 s6 s7 s8 s9 s10 s11 s12 s13 s14 s15 s16 s17 : HL} (h : Hs H (s0 ++ (s1 ++ (s2 ++ (s3 ++ (s4 ++ (s5 ++ (s6 ++ (s7 ++ (s8 ++ (s9 ++ (s10 ++ (s11 ++ (s12 ++ (s13 ++ (s14 ++ (s15 ++ (s16 ++ (s17 ++ ([(n, b)] ++ (R))))))))))))))))))))) (k : Drp H n H') : Hs H' (s0 ++ (s1 ++ (s2 ++ (s3 ++ (s4 ++ (s5 ++ (s6 ++ (s7 ++ (s8 ++ (s9 ++ (s10 ++ (s11 ++ (s12 ++ (s13 ++ (s14 ++ (s15 ++ (s16 ++ (s17 ++ (R))))))))))))))))))) := h.top18.drp k
theorem Hs.sub18 {s0 s1 s2 s3 s4 s5 s6 s7 s8 s9 s10 s11 s12 s13 s14 s15 s16 s17 : HL} (h : Hs H (s0 ++ (s1 ++ (s2 ++ (s3 ++ (s4 ++ (s5 ++ (s6 ++ (s7 ++ (s8 ++ (s9 ++ (s10 ++ (s11 ++ (s12 ++ (s13 ++ (s14 ++ (s15 ++ (s16 ++ (s17 ++ (S ++ (R))))))))))))))))))))) : Hs H (s0 ++ (s1 ++ (s2 ++ (s3 ++ (s4 ++ (s5 ++ (s6 ++ (s7 ++ (s8 ++ (s9 ++ (s10 ++ (s11 ++ (s12 ++ (s13 ++ (s14 ++ (s15 ++ (s16 ++ (s17 ++ (R))))))))))))))))))) := h.top18.sub
theorem Hs.cong18 {s0 s1 s2 s3 s4 s5 s6 s7 s8 s9 s10 s11 s12 s13 s14 s15 s16 s17 : HL} (h : Hs H (s0 ++ (s1 ++ (s2 ++ (s3 ++ (s4 ++ (s5 ++ (s6 ++ (s7 ++ (s8 ++ (s9 ++ (s10 ++ (s11 ++ (s12 ++ (s13 ++ (s14 ++ (s15 ++ (s16 ++ (s17 ++ (A ++ (R))))))))))))))))))))) (e : A = B) : Hs H (s0 ++ (s1 ++ (s2 ++ (s3 ++ (s4 ++ (s5 ++ (s6 ++ (s7 ++ (s8 ++ (s9 ++ (s10 ++ (s11 ++ (s12 ++ (s13 ++ (s14 ++ (s15 ++ (s16 ++ (s17 ++ (B ++ (R)))))))))))))))))))) := e ▸ h
theorem Hs.assoc18 {s0 s1 s2 s3 s4 s5 s6 s7 s8 s9 s10 s11 s12 s13 s14 s15 s16 s17 : HL} (h : Hs H (s0 ++ (s1 ++ (s2 ++ (s3 ++ (s4 ++ (s5 ++ (s6 ++ (s7 ++ (s8 ++ (s9 ++ (s10 ++ (s11 ++ (s12 ++ (s13 ++ (s14 ++ (s15 ++ (s16 ++ (s17 ++ ((A ++ B) ++ (R))))))))))))))))))))) : Hs H (s0 ++ (s1 ++ (s2 ++ (s3 ++ (s4 ++ (s5 ++ (s6 ++ (s7 ++ (s8 ++ (s9 ++ (s10 ++ (s11 ++ (s12 ++ (s13 ++ (s14 ++ (s15 ++ (s16 ++ (s17 ++ (A ++ (B ++ (R))))))))))))))))))))) := by rw [List.append_assoc] at h; exact h
end
theorem zero_cells (n : Nat) : (List.replicate n [AV.i IntKind.u8 0]).flatten = bcells (List.replicate n 0) := by
  induction n with
  | zero => rfl
  | succ n ih => rw [List.replicate_succ, List.flatten_cons, ih, List.replicate_succ]; rfl
theorem clone_ev {tab : Nat → Option XFun} {sp : Nat → List AV → AH → Option (AV × AH)} (h34 : tab 34 = some x34) {H : AH} (hok : H.Ok) {ba : Option (Nat × Nat)} {bn bc bg : Nat} (bhg : bg = 0 ∨ bg = 1) {lb : List UInt8} (bhb : Bs H (.sl ba bn bc bg) lb) (bhc : bn ≤ bc) (bhm : bc ≤ 9223372036854775807) (hfit : bn ≤ 1073741824) : Ev tab sp (.fn (.func 34) [] []) [.sl ba bn bc bg] H (fun r H' => Mine H.next 1 H' r (bcells (lb)) ∧ Kp H H') := by
  refine Ev_C (F := x34) h34 ?_
  have bhl := bhb.length
  subst bhl
  have hO0 := Old.refl hok
  refine C_seq ?_
  refine C_region ?_
  refine O_p (.sl none 0 0 0) (r_mv rfl) ?_
  refine O_nil ?_
  refine C_seq ?_
  refine C_seq ?_
  refine C_region ?_
  refine O_p (.sl ba lb.length bc bg) (r_mv rfl) ?_
  refine O_p (.b (if false = true then !ba.isNone else ba.isNone)) (r_nils rfl) ?_
  refine O_nil ?_
  refine C_cond (x := (if false = true then !ba.isNone else ba.isNone)) rfl (fun hc1 => ?_) (fun hc1 => ?_)
  ·
    have hcx := hc1
    refine C_seq ?_
    refine C_region ?_
    refine O_p (.sl none 0 0 0) (r_mv rfl) ?_
    refine O_nil ?_
    refine C_ret ?_
    refine nx_ret ?_
    have hnil : ba = none := by simpa using hcx
    subst hnil
    obtain rfl := bhb.nilof
    exact ⟨.inr rfl, _, resL_one (r_tmp (v := .sl none 0 0 0) rfl), Mine.nil _ _ _, hO0⟩
  ·
    have hcx := hc1
    refine C_skip ?_
    refine C_seq ?_
    refine C_region ?_
    refine O_bslice (c := []) rfl fun n2 H3 hN4 => ?_
    have hF5 := hN4.fr (fun _ => False)
    have hO6 := hO0.new hN4
    have hx_hO6 := hO6.next
    have hnm_n2 : n2 = H.next := hN4.1
    have hnx_H3 : H3.next = H.next + 1 := hN4.2.1
    have hlt_n2 : n2 < H3.next := by omega
    refine O_p (.sl ba lb.length bc bg) (r_mv rfl) ?_
    have hM7 : Mine H.next 1 H3 (.sl (some (n2, 0)) 0 0 0) [] := ⟨.mk (n := 0) hN4.2.2.1 (by omega) (.inl rfl) rfl, fun q hq => by rw [nameOf_sl] at hq; omega⟩
    refine O_qh (by exact r_app (n := 0) (k := lb.length) (new := (bcells lb)) hO6.ok hO6.next hM7 rfl rfl rfl ((bhb.old hok hO6).len) ((bhb.old hok hO6).src) ((bcells_len _).trans (Nat.mul_one _).symm) (by decide) (by decide) (by first | omega | (simp only [List.length_take, List.length_drop, List.length_append, List.length_cons, List.length_nil, beN_len] <;> omega))) fun o8 H9 hA10 => ?_
    have hx_H9 := hA10.2.1
    have hO11 := hA10.old hM7 hO6
    have hx_hO11 := hO11.next
    refine O_p o8 (r_mv rfl) ?_
    refine O_nil ?_
    refine C_ret ?_
    exact ⟨.inr rfl, _, resL_one (r_tmp (v := o8) rfl), by have h := hA10.1; simpa [resV] using h, hO11⟩
theorem new_ev {H : AH} {R : HL} {a : Int} (hH0 : Hs H R) : Ev tabA spA (.fn (.func 11) [] []) [.i .u32 a] H (fun r H' => ∃ F, r = .p (some (F, 0)) ∧ Hs H' ([(F, some (.cells [.sl none 0 0 0, .i .u32 a] true))] ++ R)) := by
  refine Ev_C (F := x11) rfl ?_
  refine C_seq ?_
  refine C_region ?_
  refine O_p (.p none) (r_mv rfl) ?_
  refine O_nil ?_
  refine C_seq ?_
  refine C_region ?_
  refine O_p (.i .u32 a) (r_mv rfl) ?_
  refine O_p (.agg [(.sl none 0 0 0), (.i .u32 a)]) (r_build rfl) ?_
  refine O_box (z := [(.sl none 0 0 0), (.i .u32 a)]) rfl fun n1 H2 hN3 => ?_
  have hH4 := hH0.new hN3
  refine O_p (.p (some (n1, 0))) (r_mv rfl) ?_
  refine O_nil ?_
  refine C_ret ?_
  exact ⟨.inr rfl, _, resL_one (r_tmp (v := (.p (some (n1, 0)))) rfl), n1, rfl, hH4⟩
theorem piece_ev {H : AH} {R : HL} {n : Nat} (hn : n ≤ 1000000) (hH0 : Hs H R) : Ev tabA spA (.fn (.func 13) [] []) [.i .i64 ((n : Nat) : Int)] H (fun r H' => ∃ b, r = .agg (cxRow ⟨0, 3, 0, 0, 0, 0, .sl none 0 0 0, .sl none 0 0 0, .sl none 0 0 0, .sl none 0 0 0, List.replicate n 0⟩ 0 (.sl (some (b, 0)) n n 0)) ∧ Hs H' ([(b, some (.cells (bcells (List.replicate n 0)) true))] ++ R)) := by
  refine Ev_C (F := x13) rfl ?_
  refine C_seq ?_
  refine C_region ?_
  refine O_alloc fun n1 H2 hN3 => ?_
  have hH4 := hH0.new hN3
  refine O_nil ?_
  refine C_seq ?_
  refine C_region ?_
  refine O_p (.i .i64 ((n : Nat) : Int)) (r_mv rfl) ?_
  refine O_mks (n := n) rfl rfl (by omega) (by omega) fun m5 H6 hN7 => ?_
  rw [zero_cells] at hN7
  have hH8 := hH4.new hN7
  refine O_p (.agg [(.i .u8 0), (.i .u8 3), (.i .u32 0), (.i .u32 0), (.i .u16 0), (.i .u16 0), (.i .u32 0), (.sl none 0 0 0), (.sl none 0 0 0), (.sl none 0 0 0), (.sl none 0 0 0), (.sl (some (m5, 0)) n n 0)]) (r_build rfl) ?_
  refine O_store (vs := [(.i .u8 0), (.i .u8 3), (.i .u32 0), (.i .u32 0), (.i .u16 0), (.i .u16 0), (.i .u32 0), (.sl none 0 0 0), (.sl none 0 0 0), (.sl none 0 0 0), (.sl none 0 0 0), (.sl (some (m5, 0)) n n 0)]) (c' := [(.i .u8 0), (.i .u8 3), (.i .u32 0), (.i .u32 0), (.i .u16 0), (.i .u16 0), (.i .u32 0), (.sl none 0 0 0), (.sl none 0 0 0), (.sl none 0 0 0), (.sl none 0 0 0), (.sl (some (m5, 0)) n n 0)]) rfl (by rfl) hH8.get1 rfl (List.cons_ne_nil _ _) (Nat.le_of_ble_eq_true rfl) rfl fun H9 hW10 => ?_
  have hH11 := hH8.wr1 hW10
  refine O_nil ?_
  refine C_ret ?_
  have hcell := hH11.get1
  have hH12 := (hH11.sub1)
  exact ⟨.inr rfl, _, resL_one (r_cellA (l := [(.i .u8 0), (.i .u8 3), (.i .u32 0), (.i .u32 0), (.i .u16 0), (.i .u16 0), (.i .u32 0), (.sl none 0 0 0), (.sl none 0 0 0), (.sl none 0 0 0), (.sl none 0 0 0), (.sl (some (m5, 0)) n n 0)]) rfl hcell rfl), m5, rfl, hH12⟩
theorem nodata_ev {H : AH} {R : HL} {c : Cx} {a : Int} {da : Option (Nat × Nat)} {dc dg : Nat} (hk : c.k = 0) (hd : 0 < c.d.length) (hH0 : Hs H R) : Ev tabA spA (.fn (.func 33) [] []) [.agg (cxRow c a (.sl da c.d.length dc dg))] H (fun r H' => r = .b false ∧ Hs H' R) := by
  unfold cxRow
  refine Ev_C (F := x33) rfl ?_
  refine C_seq ?_
  refine C_region ?_
  refine O_box (z := [(.i .u8 c.k), (.i .u8 c.f), (.i .u32 a), (.i .u32 c.b), (.i .u16 c.o), (.i .u16 c.i), (.i .u32 c.p), c.x1, c.x2, c.x3, c.x4, (.sl da c.d.length dc dg)]) rfl fun n1 H2 hN3 => ?_
  have hH4 := hH0.new hN3
  refine O_p (.b false) (r_mv rfl) ?_
  refine O_nil ?_
  refine C_seq ?_
  refine C_region ?_
  refine O_p (.p (some (n1, 0))) (r_fadd' rfl rfl) ?_
  refine O_p (.i .u8 c.k) (r_ld rfl hH4.get0 rfl) ?_
  refine O_p (.b false) (by exact (by rw [r_neq rfl rfl, decide_eq_true hk]; rfl)) ?_
  refine O_p (.b false) (r_mv rfl) ?_
  refine O_gk rfl ?_
  refine O_p (.p (some (n1, 11))) (r_fadd' rfl rfl) ?_
  refine O_gk rfl ?_
  refine O_p (.sl da c.d.length dc dg) (r_ld rfl hH4.get0 rfl) ?_
  refine O_gk rfl ?_
  refine O_p (.i .i64 (((c.d.length : Nat)) : Int)) (r_len rfl) ?_
  refine O_gk rfl ?_
  refine O_p (.b false) (by exact (by rw [r_eql rfl rfl, decide_eq_false (by omega)])) ?_
  refine O_p (.b false) (r_pick_f rfl rfl) ?_
  refine O_p (.b false) (r_mv rfl) ?_
  refine O_nil ?_
  refine C_ret ?_
  have hH5 := (hH4.sub0)
  exact ⟨.inr rfl, _, resL_one (r_tmp (v := (.b false)) rfl), rfl, hH5⟩
theorem ixf_ev {H : AH} {R B : HL} {v : AV} {rows : List (List AV)} {cs : List (Cx × Int)} (hv : ∀ H', Hs H' B → Rw 12 H' v rows) (hcr : CxsR B rows cs) (hgood : ∀ c ∈ cs, c.1.k = 0 ∧ 0 < c.1.d.length) (hcl : cs.length ≤ 1000000) (hH0 : Hs H (B ++ R)) : Ev tabA spA (.fn (.func 58) [] []) [v, .fn (.func 33) [] []] H (fun r H' => r = .i .i64 (-1) ∧ Hs H' (B ++ R)) := by
  refine Ev_C (F := x58) rfl ?_
  refine C_seq ?_
  refine C_region ?_
  refine O_p (.i .i64 0) (r_mv rfl) ?_
  refine O_nil ?_
  refine C_seq ?_
  refine C_seq ?_
  refine C_region ?_
  refine O_p v (r_mv rfl) ?_
  refine O_p (.i .i64 (((cs.length : Nat)) : Int)) (r_lenOf (v := v) (n := cs.length) rfl ((hv _ hH0.top0.fst).lenOf hcr.1) (hv _ hH0.top0.fst).isSl) ?_
  refine O_p (.i .i64 0) (r_mv rfl) ?_
  refine O_nil ?_
  refine C_block ?_
  refine C_while (fun m1 T2 H3 => ∃ j : Nat, m1 = cs.length - j ∧ j ≤ cs.length ∧ cs.length ≤ 1000000 ∧ Hs H3 (B ++ (R)) ∧ T2.get 0 = v ∧ T2.get 1 = (.fn (.func 33) [] []) ∧ T2.get 7 = (.i .i64 (((cs.length : Nat)) : Int)) ∧ T2.get 8 = (.i .i64 (((j : Nat)) : Int))) (fun m1 T2 H3 hI4 => ?_) cs.length _ _ ⟨0, rfl, Nat.zero_le _, hcl, hH0, rfl, rfl, rfl, rfl⟩
  obtain ⟨j, hm5, hp6, hp7, hH12, hT8, hT9, hT10, hT11⟩ := hI4
  refine C_seq ?_
  refine C_region ?_
  refine O_p (.b (decide ((((j : Nat)) : Int) < (((cs.length : Nat)) : Int)))) (r_lss hT11 hT10) ?_
  refine O_nil ?_
  refine C_seq ?_
  refine C_cond (x := (decide ((((j : Nat)) : Int) < (((cs.length : Nat)) : Int)))) rfl (fun hc13 => ?_) (fun hc13 => ?_)
  ·
    try simp only [decide_eq_true_eq, decide_eq_false_iff_not, Bool.not_eq_true', Bool.not_eq_false', Bool.and_eq_true, Bool.or_eq_true, Bool.or_eq_false_iff, Bool.not_not, Bool.and_eq_false_iff] at hc13
    refine C_skip ?_
    refine C_seq ?_
    refine C_block ?_
    refine C_seq ?_
    refine C_region ?_
    refine O_p (.i .i64 (((j : Nat)) : Int)) (r_mv hT11) ?_
    refine O_p (.i .i64 (((j : Nat)) : Int)) (r_mv rfl) ?_
    refine O_nil ?_
    refine C_seq ?_
    refine C_region ?_
    refine O_p (.fn (.func 33) [] []) (r_mv hT9) ?_
    refine O_p v (r_mv hT8) ?_
    refine O_p (.i .i64 (((j : Nat)) : Int)) (r_mv rfl) ?_
    have hjl : j < cs.length := by omega
    obtain ⟨x, dv, hxi, hri, hoc⟩ := hcr.get hjl
    have hgx := hgood x (List.mem_of_getElem? hxi)
    obtain ⟨da, dc, dg, de, dhg, dhc, dhm, dhb⟩ := hoc
    subst de
    unfold cxRow at hri
    refine O_q (by exact Rw.row (hv _ hH12.top0.fst) rfl (i := j) rfl (r := [(.i .u8 x.1.k), (.i .u8 x.1.f), (.i .u32 x.2), (.i .u32 x.1.b), (.i .u16 x.1.o), (.i .u16 x.1.i), (.i .u32 x.1.p), x.1.x1, x.1.x2, x.1.x3, x.1.x4, (.sl da x.1.d.length dc dg)]) hri) fun v15 hv14 => ?_
    obtain ⟨rb16, ro17, rfl, hr18⟩ := hv14
    refine O_p (.agg [(.i .u8 x.1.k), (.i .u8 x.1.f), (.i .u32 x.2), (.i .u32 x.1.b), (.i .u16 x.1.o), (.i .u16 x.1.i), (.i .u32 x.1.p), x.1.x1, x.1.x2, x.1.x3, x.1.x4, (.sl da x.1.d.length dc dg)]) (r_ldRA (q := 0) rfl (hr18 _ (hv _ hH12.top0.fst)) rfl) ?_
    refine O_call (Ev.mono (nodata_ev (c := x.1) (a := x.2) hgx.1 hgx.2 hH12) fun v19 H20 hq21 => ?_)
    obtain ⟨rfl, hH22⟩ := hq21
    refine O_nil ?_
    refine C_cond (x := false) rfl (fun h => by cases h) (fun _ => ?_)
    refine C_skip ?_
    refine C_region ?_
    refine O_p (.i .i64 ((((j : Nat)) : Int) + 1)) (by exact (r_addi hT11 rfl (wrap_i64 (by omega) (by omega)))) ?_
    refine O_p (.i .i64 ((((j : Nat)) : Int) + 1)) (r_mv rfl) ?_
    refine O_nil ?_
    exact ⟨cs.length - (j + 1), by omega, (j + 1), rfl, by omega, hcl, hH22, hT8, hT9, hT10, rfl⟩
  ·
    try simp only [decide_eq_true_eq, decide_eq_false_iff_not, Bool.not_eq_true', Bool.not_eq_false', Bool.and_eq_true, Bool.or_eq_true, Bool.or_eq_false_iff, Bool.not_not, Bool.and_eq_false_iff] at hc13
    refine C_exit ?_
    refine nx_exit ?_
    refine nx_exit ?_
    refine bk_hit ?_
    refine C_seq ?_
    refine C_region ?_
    refine O_p (.i .i64 (-1)) (r_mv rfl) ?_
    refine O_nil ?_
    refine C_ret ?_
    exact ⟨.inr rfl, _, resL_one (r_tmp (v := (.i .i64 (-1))) rfl), rfl, hH12⟩
theorem cont_ev {H : AH} {R B : HL} {v : AV} {rows : List (List AV)} {cs : List (Cx × Int)} (hv : ∀ H', Hs H' B → Rw 12 H' v rows) (hcr : CxsR B rows cs) (hgood : ∀ c ∈ cs, c.1.k = 0 ∧ 0 < c.1.d.length) (hcl : cs.length ≤ 1000000) (hH0 : Hs H (B ++ R)) : Ev tabA spA (.fn (.func 32) [] []) [v, .fn (.func 33) [] []] H (fun r H' => r = .b false ∧ Hs H' (B ++ R)) := by
  refine Ev_C (F := x32) rfl ?_
  refine C_seq ?_
  refine C_region ?_
  refine O_p (.b false) (r_mv rfl) ?_
  refine O_nil ?_
  refine C_seq ?_
  refine C_region ?_
  refine O_p v (r_mv rfl) ?_
  refine O_p (.fn (.func 33) [] []) (r_mv rfl) ?_
  refine O_call (Ev.mono (ixf_ev hv hcr hgood hcl hH0) fun v1 H2 hq3 => ?_)
  obtain ⟨rfl, hH4⟩ := hq3
  refine O_p (.b false) (by exact (by rw [r_geq rfl rfl, decide_eq_false (by decide)])) ?_
  refine O_p (.b false) (r_mv rfl) ?_
  refine O_nil ?_
  refine C_ret ?_
  exact ⟨.inr rfl, _, resL_one (r_tmp (v := (.b false)) rfl), rfl, hH4⟩
end Go.Proofs.Ytipcacpaadgagaa.E
