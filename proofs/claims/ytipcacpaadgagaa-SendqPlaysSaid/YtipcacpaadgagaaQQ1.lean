/- Queues of chunks: what lies in the heap; small functions. It bears no condition. -/
import Derived.Test.YtipcacpaadgagaaE46
import Derived.Test.YtipcacpaadgagaaX
import Derived.Test.YtipcacpaadgagaaE0
import Derived.Test.YtipcacpaadgagaaE37
namespace Go.Proofs.Ytipcacpaadgagaa.E
set_option linter.unusedVariables false
set_option linter.unusedSimpArgs false
theorem globals0 : Try.prog.globals.size = 0 := by kernel_rfl
theorem mixed : Try.prog.follows .mixedOrders = true := by kernel_rfl
theorem laid : laidOutB Try.prog = true := by kernel_rfl
def tabA := without [10] tab
theorem tabA_ok : TabOK Try.prog tabA := without_ok tab_ok
def spA := withSp 10 [] (.b true) noSp
theorem spA_ok : SpOK Try.prog tabA spA := withSp_ok (k := 300) (f := 10) (args := []) (v := .b true) mixed globals0 tab_ok noSp_ok (by kernel_rfl) rfl rfl noSp_ok
theorem New.loop {H H' : AH} {L : Nat} {st : LoopState} {pend : Option XExit} {ps : List Nat} {asg body : XC} {T : Tm} (h : New H L (.loop st pend ps asg body T) H') : ∃ LB, LB = Blk.loop st pend ps asg body T ∧ New H L LB H' := ⟨_, rfl, h⟩
abbrev w32 (x : Int) : Int := IntKind.u32.wrap x
structure Cx where
 k : Int
 f : Int
 b : Int
 o : Int
 i : Int
 p : Int
 x1 : AV
 x2 : AV
 x3 : AV
 x4 : AV
 d : List UInt8
structure Ea where
 c : Cx
 a : Int
 st : Int
 sent : Int
 tm : Int
 mi : Int
structure En where
 e : Ea
 n : Nat
 m : Nat
 dv : AV
def Ea.fly (now : Int) (e : Ea) : Ea := ⟨e.c, e.a, 1, e.sent + 1, now, 0⟩
def cxRow (c : Cx) (a : Int) (dv : AV) : List AV := [.i .u8 c.k, .i .u8 c.f, .i .u32 a, .i .u32 c.b, .i .u16 c.o, .i .u16 c.i, .i .u32 c.p, c.x1, c.x2, c.x3, c.x4, dv]
def enRow (x : En) : List AV := [.i .u8 x.e.c.k, .i .u8 x.e.c.f, .i .u32 x.e.a, .i .u32 x.e.c.b, .i .u16 x.e.c.o, .i .u16 x.e.c.i, .i .u32 x.e.c.p, x.e.c.x1, x.e.c.x2, x.e.c.x3, x.e.c.x4, x.dv, .p (some (x.m, 0)), .i .i64 x.e.st, .i .i64 x.e.sent, .i .i64 x.e.tm, .i .i64 x.e.mi]
def En.seg (x : En) : HL := [(x.n, some (.cells (enRow x) true))]
def En.pr (x : En) : List AV := [.p (some (x.n, 0))]
def En.nm (x : En) : Nat × Nat := (x.n, x.m)
def OctIn (D : HL) (v : AV) (d : List UInt8) : Prop := ∃ (a : Option (Nat × Nat)) (cap g : Nat), v = .sl a d.length cap g ∧ (g = 0 ∨ g = 1) ∧ d.length ≤ cap ∧ cap ≤ 9223372036854775807 ∧ ∀ H', Hs H' D → Bs H' (.sl a d.length cap g) d
theorem OctIn.mono {A B : HL} {v : AV} {d : List UInt8} (h : OctIn A v d) (hs : ∀ H', Hs H' B → Hs H' A) : OctIn B v d := by
 obtain ⟨a, cap, g, h1, h2, h3, h4, h5⟩ := h
 exact ⟨a, cap, g, h1, h2, h3, h4, fun H' hh => h5 H' (hs H' hh)⟩
def CxsR (D : HL) (rows : List (List AV)) (cs : List (Cx × Int)) : Prop := rows.length = cs.length ∧ ∀ (i : Nat) (x : Cx × Int), cs[i]? = some x → ∃ dv, rows[i]? = some (cxRow x.1 x.2 dv) ∧ OctIn D dv x.1.d
theorem CxsR.nil {D : HL} : CxsR D [] [] := ⟨rfl, fun i x h => by simp at h⟩
theorem CxsR.mono {A B : HL} {rows : List (List AV)} {cs : List (Cx × Int)} (h : CxsR A rows cs) (hs : ∀ H', Hs H' B → Hs H' A) : CxsR B rows cs := ⟨h.1, fun i x hx => by
 obtain ⟨dv, h1, h2⟩ := h.2 i x hx
 exact ⟨dv, h1, h2.mono hs⟩⟩
theorem CxsR.snoc {D : HL} {rows : List (List AV)} {cs : List (Cx × Int)} {x : Cx × Int} {dv : AV} (h : CxsR D rows cs) (hd : OctIn D dv x.1.d) : CxsR D (rows ++ [cxRow x.1 x.2 dv]) (cs ++ [x]) := by
  refine ⟨by rw [List.length_append, List.length_append, h.1]; rfl, fun i y hy => ?_⟩
  by_cases hi : i < cs.length
  · rw [List.getElem?_append_left hi] at hy
    obtain ⟨q, h1, h2⟩ := h.2 i y hy
    exact ⟨q, by rw [List.getElem?_append_left (by rw [h.1]; exact hi)]; exact h1, h2⟩
  · rw [List.getElem?_append_right (by omega)] at hy
    have h0 : i - cs.length = 0 := by
      have := (List.getElem?_eq_some_iff.1 hy).1
      simp only [List.length_cons, List.length_nil] at this; omega
    rw [h0] at hy
    simp only [List.getElem?_cons_zero, Option.some.injEq] at hy
    subst hy
    exact ⟨dv, by rw [List.getElem?_append_right (by rw [h.1]; omega), h.1, h0]; rfl, hd⟩
theorem CxsR.get {D : HL} {rows : List (List AV)} {cs : List (Cx × Int)} (h : CxsR D rows cs) {i : Nat} (hi : i < cs.length) : ∃ x dv, cs[i]? = some x ∧ rows[i]? = some (cxRow x.1 x.2 dv) ∧ OctIn D dv x.1.d := by
 obtain ⟨dv, h1, h2⟩ := h.2 i _ (List.getElem?_eq_getElem hi)
 exact ⟨_, dv, List.getElem?_eq_getElem hi, h1, h2⟩
theorem CxsR.lens {D : HL} {rows : List (List AV)} {cs : List (Cx × Int)} (h : CxsR D rows cs) : ∀ r ∈ rows, r.length = 12 := fun r hr => by
 obtain ⟨i, hi, rfl⟩ := List.getElem_of_mem hr
 have hi' : i < cs.length := by rw [← h.1]; exact hi
 obtain ⟨dv, h1, _⟩ := h.2 i _ (List.getElem?_eq_getElem hi')
 rw [List.getElem?_eq_getElem hi] at h1
 simp only [Option.some.injEq] at h1
 rw [h1]; rfl
theorem pr_lens (q : List En) : ∀ r ∈ q.map En.pr, r.length = 1 := fun r hr => by obtain ⟨x, _, rfl⟩ := List.mem_map.1 hr; rfl
theorem pr_get {q : List En} {k : Nat} {x : En} (h : q[k]? = some x) : (q.map En.pr)[k]? = some [.p (some (x.n, 0))] := by rw [List.getElem?_map, h]; rfl
theorem pr_map {q r : List En} (h : q.map En.nm = r.map En.nm) : q.map En.pr = r.map En.pr := by
 have e : ∀ l : List En, l.map En.pr = (l.map En.nm).map fun n => [AV.p (some (n.1, 0))] := fun l => by rw [List.map_map]; rfl
 rw [e, e, h]
theorem nm_m {q r : List En} (h : q.map En.nm = r.map En.nm) : q.map En.m = r.map En.m := by
 have e : ∀ l : List En, l.map En.m = (l.map En.nm).map Prod.snd := fun l => by rw [List.map_map]; rfl
 rw [e, e, h]
theorem erase_perm {α β : Type} (f : α → List β) : ∀ {l : List α} {k : Nat} {p : α}, l[k]? = some p → (l.flatMap f).Perm (f p ++ (l.eraseIdx k).flatMap f)
  | [], k, p, h => by simp at h
  | a :: l, 0, p, h => by
    simp only [List.getElem?_cons_zero, Option.some.injEq] at h
    subst h
    rw [List.flatMap_cons]; exact List.Perm.refl _
  | a :: l, k + 1, p, h => by
    have h1 := erase_perm f (l := l) (k := k) (p := p) (by simpa using h)
    rw [List.eraseIdx_cons_succ, List.flatMap_cons, List.flatMap_cons]
    refine (List.Perm.append_left _ h1).trans ?_
    rw [← List.append_assoc, ← List.append_assoc]
    exact List.Perm.append_right _ List.perm_append_comm
theorem erase_set {α : Type} : ∀ {l : List α} {k : Nat} {p : α}, (l.set k p).eraseIdx k = l.eraseIdx k
  | [], _, _ => rfl
  | a :: l, 0, p => rfl
  | a :: l, k + 1, p => by rw [List.set_cons_succ, List.eraseIdx_cons_succ, List.eraseIdx_cons_succ, erase_set]
theorem rows_same {α : Type} {l : List α} {k : Nat} {x : α} (h : l[k]? = some x) : l.set k x = l := by
 obtain ⟨hk, rfl⟩ := List.getElem?_eq_some_iff.1 h
 exact List.set_getElem_self hk
section
variable {H : AH} {R : HL} {q : List En} {k : Nat} {x y : En}
theorem En.out (h : q[k]? = some x) (hH : Hs H (q.flatMap En.seg ++ R)) : Hs H ([(x.n, some (.cells [.i .u8 x.e.c.k, .i .u8 x.e.c.f, .i .u32 x.e.a, .i .u32 x.e.c.b, .i .u16 x.e.c.o, .i .u16 x.e.c.i, .i .u32 x.e.c.p, x.e.c.x1, x.e.c.x2, x.e.c.x3, x.e.c.x4, x.dv, .p (some (x.m, 0)), .i .i64 x.e.st, .i .i64 x.e.sent, .i .i64 x.e.tm, .i .i64 x.e.mi] true))] ++ ((q.eraseIdx k).flatMap En.seg ++ R)) := by
 refine Hs.perm hH ?_
 refine (List.Perm.append_right R (erase_perm En.seg h)).trans ?_
 rw [List.append_assoc]; exact List.Perm.refl _
theorem En.back (h : q[k]? = some x) (hH : Hs H ([(y.n, some (.cells (enRow y) true))] ++ ((q.eraseIdx k).flatMap En.seg ++ R))) : Hs H ((q.set k y).flatMap En.seg ++ R) := by
 have hk := (List.getElem?_eq_some_iff.1 h).1
 refine Hs.perm hH ?_
 have h2 : (q.set k y)[k]? = some y := List.getElem?_set_self hk
 refine List.Perm.trans ?_ (List.Perm.append_right R (erase_perm En.seg h2)).symm
 rw [erase_set, List.append_assoc]; exact List.Perm.refl _
theorem En.back0 (h : q[k]? = some x) (hH : Hs H ([(x.n, some (.cells (enRow x) true))] ++ ((q.eraseIdx k).flatMap En.seg ++ R))) : Hs H (q.flatMap En.seg ++ R) := by
  have h1 := En.back (y := x) h hH
  rw [rows_same h] at h1; exact h1
end
def Qr (F : Nat) (es : List Ea) (nx : Int) (D L : HL) : Prop := ∃ (lv : AV) (lc : List AV) (q : List En), q.map En.e = es ∧ Sq 1 lv lc (q.map En.pr).flatten ∧ (∀ x ∈ q, OctIn D x.dv x.e.c.d) ∧ L = [(F, some (.cells [lv, .i .u32 nx] true))] ++ (qseg lv lc ++ q.flatMap En.seg)
def pushA : List (Cx × Int) → Int → List Ea
  | [], _ => []
  | c :: cs, a => ⟨c.1, w32 a, 0, 0, 0, 0⟩ :: pushA cs (a + 1)
theorem pushA_snoc : ∀ {cs : List (Cx × Int)} {a : Int} {c : Cx × Int}, pushA (cs ++ [c]) a = pushA cs a ++ [⟨c.1, w32 (a + cs.length), 0, 0, 0, 0⟩]
  | [], a, c => by show [_] = [_]; rw [show a + (([] : List (Cx × Int)).length : Int) = a from Int.add_zero a]
  | b :: cs, a, c => by
    show _ :: pushA (cs ++ [c]) (a + 1) = _ :: (pushA cs (a + 1) ++ _)
    rw [pushA_snoc]
    congr 5
    simp only [List.length_cons]; omega
theorem pushA_len : ∀ {cs : List (Cx × Int)} {a : Int}, (pushA cs a).length = cs.length
  | [], a => rfl
  | b :: cs, a => by show (pushA cs (a + 1)).length + 1 = _; rw [pushA_len]; rfl
def takeL (s now : Int) : List Ea → Int → List Ea × List Ea × Int × Bool
  | [], r => ([], [], r, false)
  | e :: l, r => if e.st = s then (if r < (e.c.d.length : Int) then (e :: l, [], r, true) else (e.fly now :: (takeL s now l (r - e.c.d.length)).1, e :: (takeL s now l (r - e.c.d.length)).2.1, (takeL s now l (r - e.c.d.length)).2.2.1, (takeL s now l (r - e.c.d.length)).2.2.2)) else (e :: (takeL s now l r).1, (takeL s now l r).2.1, (takeL s now l r).2.2.1, (takeL s now l r).2.2.2)
section
variable {s now r : Int} {e : Ea} {l : List Ea}
theorem takeL_ne (h : ¬ e.st = s) : takeL s now (e :: l) r = (e :: (takeL s now l r).1, (takeL s now l r).2.1, (takeL s now l r).2.2.1, (takeL s now l r).2.2.2) := by
 show (if e.st = s then _ else _ : List Ea × List Ea × Int × Bool) = _
 rw [if_neg h]
theorem takeL_full (h : e.st = s) (hr : r < (e.c.d.length : Int)) : takeL s now (e :: l) r = (e :: l, [], r, true) := by
 show (if e.st = s then _ else _ : List Ea × List Ea × Int × Bool) = _
 rw [if_pos h, if_pos hr]
theorem takeL_fit (h : e.st = s) (hr : ¬ r < (e.c.d.length : Int)) : takeL s now (e :: l) r = (e.fly now :: (takeL s now l (r - e.c.d.length)).1, e :: (takeL s now l (r - e.c.d.length)).2.1, (takeL s now l (r - e.c.d.length)).2.2.1, (takeL s now l (r - e.c.d.length)).2.2.2) := by
 show (if e.st = s then _ else _ : List Ea × List Ea × Int × Bool) = _
 rw [if_pos h, if_neg hr]
end
theorem takeL_app {s now : Int} {l2 : List Ea} : ∀ {l1 : List Ea} {r : Int}, takeL s now (l1 ++ l2) r = if (takeL s now l1 r).2.2.2 then ((takeL s now l1 r).1 ++ l2, (takeL s now l1 r).2.1, (takeL s now l1 r).2.2.1, true) else ((takeL s now l1 r).1 ++ (takeL s now l2 (takeL s now l1 r).2.2.1).1, (takeL s now l1 r).2.1 ++ (takeL s now l2 (takeL s now l1 r).2.2.1).2.1, (takeL s now l2 (takeL s now l1 r).2.2.1).2.2.1, (takeL s now l2 (takeL s now l1 r).2.2.1).2.2.2)
  | [], r => rfl
  | e :: l1, r => by
    rw [List.cons_append]
    by_cases h : e.st = s
    · by_cases hr : r < (e.c.d.length : Int)
      · rw [takeL_full h hr, takeL_full h hr]; rfl
      · rw [takeL_fit h hr, takeL_fit h hr, takeL_app]
        dsimp only
        split <;> rfl
    · rw [takeL_ne h, takeL_ne h, takeL_app]
      dsimp only
      split <;> rfl
theorem takeL_len {s now : Int} : ∀ {l : List Ea} {r : Int}, (takeL s now l r).1.length = l.length
  | [], r => rfl
  | e :: l, r => by
    by_cases h : e.st = s
    · by_cases hr : r < (e.c.d.length : Int)
      · rw [takeL_full h hr]
      · rw [takeL_fit h hr]
        show (takeL s now l _).1.length + 1 = _
        rw [takeL_len]; rfl
    · rw [takeL_ne h]
      show (takeL s now l _).1.length + 1 = _
      rw [takeL_len]; rfl
section
variable {H H' : AH} {L L' A B R S : HL} {n : Nat} {b b' : Option Blk}
theorem Hs.top10 {s0 s1 s2 s3 s4 s5 s6 s7 s8 s9 : HL} (h : Hs H (s0 ++ (s1 ++ (s2 ++ (s3 ++ (s4 ++ (s5 ++ (s6 ++ (s7 ++ (s8 ++ (s9 ++ (S ++ (R))))))))))))) : Hs H (S ++ (s0 ++ (s1 ++ (s2 ++ (s3 ++ (s4 ++ (s5 ++ (s6 ++ (s7 ++ (s8 ++ (s9 ++ (R)))))))))))) := by
 refine h.perm ?_
 have := List.perm_append_comm_assoc (s0 ++ s1 ++ s2 ++ s3 ++ s4 ++ s5 ++ s6 ++ s7 ++ s8 ++ s9) S R
 simpa only [List.append_assoc] using this
theorem Hs.bot10 {s0 s1 s2 s3 s4 s5 s6 s7 s8 s9 : HL} (h : Hs H (S ++ (s0 ++ (s1 ++ (s2 ++ (s3 ++ (s4 ++ (s5 ++ (s6 ++ (s7 ++ (s8 ++ (s9 ++ (R))))))))))))) : Hs H (s0 ++ (s1 ++ (s2 ++ (s3 ++ (s4 ++ (s5 ++ (s6 ++ (s7 ++ (s8 ++ (s9 ++ (S ++ (R)))))))))))) := by
 refine h.perm ?_
 have := List.perm_append_comm_assoc S (s0 ++ s1 ++ s2 ++ s3 ++ s4 ++ s5 ++ s6 ++ s7 ++ s8 ++ s9) R
 simpa only [List.append_assoc] using this
theorem Hs.get10 {s0 s1 s2 s3 s4 s5 s6 s7 s8 s9 : HL} (h : Hs H (s0 ++ (s1 ++ (s2 ++ (s3 ++ (s4 ++ (s5 ++ (s6 ++ (s7 ++ (s8 ++ (s9 ++ ([(n, b)] ++ (R))))))))))))) : H.get n = b := h.top10.get
theorem Hs.wr10 {s0 s1 s2 s3 s4 s5 s6 s7 s8 s9 : HL} {c : Blk} (h : Hs H (s0 ++ (s1 ++ (s2 ++ (s3 ++ (s4 ++ (s5 ++ (s6 ++ (s7 ++ (s8 ++ (s9 ++ ([(n, b)] ++ (R))))))))))))) (k : Wr H n c H') : Hs H' (s0 ++ (s1 ++ (s2 ++ (s3 ++ (s4 ++ (s5 ++ (s6 ++ (s7 ++ (s8 ++ (s9 ++ ([(n, some c)] ++ (R)))))))))))) := (h.top10.wr k).bot10
theorem Hs.top11 {s0 s1 s2 s3 s4 s5 s6 s7 s8 s9 s10 : HL} (h : Hs H (s0 ++ (s1 ++ (s2 ++ (s3 ++ (s4 ++ (s5 ++ (s6 ++ (s7 ++ (s8 ++ (s9 ++ (s10 ++ (S ++ (R)))))))))))))) : Hs H (S ++ (s0 ++ (s1 ++ (s2 ++ (s3 ++ (s4 ++ (s5 ++ (s6 ++ (s7 ++ (s8 ++ (s9 ++ (s10 ++ (R))))))))))))) := by
 refine h.perm ?_
 have := List.perm_append_comm_assoc (s0 ++ s1 ++ s2 ++ s3 ++ s4 ++ s5 ++ s6 ++ s7 ++ s8 ++ s9 ++ s10) S R
 simpa only [List.append_assoc] using this
theorem Hs.bot11 {s0 s1 s2 s3 s4 s5 s6 s7 s8 s9 s10 : HL} (h : Hs H (S ++ (s0 ++ (s1 ++ (s2 ++ (s3 ++ (s4 ++ (s5 ++ (s6 ++ (s7 ++ (s8 ++ (s9 ++ (s10 ++ (R)))))))))))))) : Hs H (s0 ++ (s1 ++ (s2 ++ (s3 ++ (s4 ++ (s5 ++ (s6 ++ (s7 ++ (s8 ++ (s9 ++ (s10 ++ (S ++ (R))))))))))))) := by
 refine h.perm ?_
 have := List.perm_append_comm_assoc S (s0 ++ s1 ++ s2 ++ s3 ++ s4 ++ s5 ++ s6 ++ s7 ++ s8 ++ s9 ++ s10) R
 simpa only [List.append_assoc] using this
theorem Hs.get11 {s0 s1 s2 s3 s4 s5 s6 s7 s8 s9 s10 : HL} (h : Hs H (s0 ++ (s1 ++ (s2 ++ (s3 ++ (s4 ++ (s5 ++ (s6 ++ (s7 ++ (s8 ++ (s9 ++ (s10 ++ ([(n, b)] ++ (R)))))))))))))) : H.get n = b := h.top11.get
theorem Hs.wr11 {s0 s1 s2 s3 s4 s5 s6 s7 s8 s9 s10 : HL} {c : Blk} (h : Hs H (s0 ++ (s1 ++ (s2 ++ (s3 ++ (s4 ++ (s5 ++ (s6 ++ (s7 ++ (s8 ++ (s9 ++ (s10 ++ ([(n, b)] ++ (R)))))))))))))) (k : Wr H n c H') : Hs H' (s0 ++ (s1 ++ (s2 ++ (s3 ++ (s4 ++ (s5 ++ (s6 ++ (s7 ++ (s8 ++ (s9 ++ (s10 ++ ([(n, some c)] ++ (R))))))))))))) := (h.top11.wr k).bot11
theorem Hs.cong11 {s0 s1 s2 s3 s4 s5 s6 s7 s8 s9 s10 : HL} (h : Hs H (s0 ++ (s1 ++ (s2 ++ (s3 ++ (s4 ++ (s5 ++ (s6 ++ (s7 ++ (s8 ++ (s9 ++ (s10 ++ (A ++ (R)))))))))))))) (e : A = B) : Hs H (s0 ++ (s1 ++ (s2 ++ (s3 ++ (s4 ++ (s5 ++ (s6 ++ (s7 ++ (s8 ++ (s9 ++ (s10 ++ (B ++ (R))))))))))))) := e ▸ h
theorem Hs.top12 {s0 s1 s2 s3 s4 s5 s6 s7 s8 s9 s10 s11 : HL} (h : Hs H (s0 ++ (s1 ++ (s2 ++ (s3 ++ (s4 ++ (s5 ++ (s6 ++ (s7 ++ (s8 ++ (s9 ++ (s10 ++ (s11 ++ (S ++ (R))))))))))))))) : Hs H (S ++ (s0 ++ (s1 ++ (s2 ++ (s3 ++ (s4 ++ (s5 ++ (s6 ++ (s7 ++ (s8 ++ (s9 ++ (s10 ++ (s11 ++ (R)))))))))))))) := by
 refine h.perm ?_
 have := List.perm_append_comm_assoc (s0 ++ s1 ++ s2 ++ s3 ++ s4 ++ s5 ++ s6 ++ s7 ++ s8 ++ s9 ++ s10 ++ s11) S R
 simpa only [List.append_assoc] using this
theorem Hs.top13 {s0 s1 s2 s3 s4 s5 s6 s7 s8 s9 s10 s11 s12 : HL} (h : Hs H (s0 ++ (s1 ++ (s2 ++ (s3 ++ (s4 ++ (s5 ++ (s6 ++ (s7 ++ (s8 ++ (s9 ++ (s10 ++ (s11 ++ (s12 ++ (S ++ (R)))))))))))))))) : Hs H (S ++ (s0 ++ (s1 ++ (s2 ++ (s3 ++ (s4 ++ (s5 ++ (s6 ++ (s7 ++ (s8 ++ (s9 ++ (s10 ++ (s11 ++ (s12 ++ (R))))))))))))))) := by
 refine h.perm ?_
 have := List.perm_append_comm_assoc (s0 ++ s1 ++ s2 ++ s3 ++ s4 ++ s5 ++ s6 ++ s7 ++ s8 ++ s9 ++ s10 ++ s11 ++ s12) S R
 simpa only [List.append_assoc] using this
theorem Hs.get13 {s0 s1 s2 s3 s4 s5 s6 s7 s8 s9 s10 s11 s12 : HL} (h : Hs H (s0 ++ (s1 ++ (s2 ++ (s3 ++ (s4 ++ (s5 ++ (s6 ++ (s7 ++ (s8 ++ (s9 ++ (s10 ++ (s11 ++ (s12 ++ ([(n, b)] ++ (R)))))))))))))))) : H.get n = b := h.top13.get
theorem Hs.top15 {s0 s1 s2 s3 s4 s5 s6 s7 s8 s9 s10 s11 s12 s13 s14 : HL} (h : Hs H (s0 ++ (s1 ++ (s2 ++ (s3 ++ (s4 ++ (s5 ++ (s6 ++ (s7 ++ (s8 ++ (s9 ++ (s10 ++ (s11 ++ (s12 ++ (s13 ++ (s14 ++ (S ++ (R)))))))))))))))))) : Hs H (S ++ (s0 ++ (s1 ++ (s2 ++ (s3 ++ (s4 ++ (s5 ++ (s6 ++ (s7 ++ (s8 ++ (s9 ++ (s10 ++ (s11 ++ (s12 ++ (s13 ++ (s14 ++ (R))))))))))))))))) := by
 refine h.perm ?_
 have := List.perm_append_comm_assoc (s0 ++ s1 ++ s2 ++ s3 ++ s4 ++ s5 ++ s6 ++ s7 ++ s8 ++ s9 ++ s10 ++ s11 ++ s12 ++ s13 ++ s14) S R
 simpa only [List.append_assoc] using this
theorem Hs.bot15 {s0 s1 s2 s3 s4 s5 s6 s7 s8 s9 s10 s11 s12 s13 s14 : HL} (h : Hs H (S ++ (s0 ++ (s1 ++ (s2 ++ (s3 ++ (s4 ++ (s5 ++ (s6 ++ (s7 ++ (s8 ++ (s9 ++ (s10 ++ (s11 ++ (s12 ++ (s13 ++ (s14 ++ (R)))))))))))))))))) : Hs H (s0 ++ (s1 ++ (s2 ++ (s3 ++ (s4 ++ (s5 ++ (s6 ++ (s7 ++ (s8 ++ (s9 ++ (s10 ++ (s11 ++ (s12 ++ (s13 ++ (s14 ++ (S ++ (R))))))))))))))))) := by
 refine h.perm ?_
 have := List.perm_append_comm_assoc S (s0 ++ s1 ++ s2 ++ s3 ++ s4 ++ s5 ++ s6 ++ s7 ++ s8 ++ s9 ++ s10 ++ s11 ++ s12 ++ s13 ++ s14) R
 simpa only [List.append_assoc] using this
theorem Hs.get15 {s0 s1 s2 s3 s4 s5 s6 s7 s8 s9 s10 s11 s12 s13 s14 : HL} (h : Hs H (s0 ++ (s1 ++ (s2 ++ (s3 ++ (s4 ++ (s5 ++ (s6 ++ (s7 ++ (s8 ++ (s9 ++ (s10 ++ (s11 ++ (s12 ++ (s13 ++ (s14 ++ ([(n, b)] ++ (R)))))))))))))))))) : H.get n = b := h.top15.get
theorem Hs.wr15 {s0 s1 s2 s3 s4 s5 s6 s7 s8 s9 s10 s11 s12 s13 s14 : HL} {c : Blk} (h : Hs H (s0 ++ (s1 ++ (s2 ++ (s3 ++ (s4 ++ (s5 ++ (s6 ++ (s7 ++ (s8 ++ (s9 ++ (s10 ++ (s11 ++ (s12 ++ (s13 ++ (s14 ++ ([(n, b)] ++ (R)))))))))))))))))) (k : Wr H n c H') : Hs H' (s0 ++ (s1 ++ (s2 ++ (s3 ++ (s4 ++ (s5 ++ (s6 ++ (s7 ++ (s8 ++ (s9 ++ (s10 ++ (s11 ++ (s12 ++ (s13 ++ (s14 ++ ([(n, some c)] ++ (R))))))))))))))))) := (h.top15.wr k).bot15
theorem Hs.top16 {s0 s1 s2 s3 s4 s5 s6 s7 s8 s9 s10 s11 s12 s13 s14 s15 : HL} (h : Hs H (s0 ++ (s1 ++ (s2 ++ (s3 ++ (s4 ++ (s5 ++ (s6 ++ (s7 ++ (s8 ++ (s9 ++ (s10 ++ (s11 ++ (s12 ++ (s13 ++ (s14 ++ (s15 ++ (S ++ (R))))))))))))))))))) : Hs H (S ++ (s0 ++ (s1 ++ (s2 ++ (s3 ++ (s4 ++ (s5 ++ (s6 ++ (s7 ++ (s8 ++ (s9 ++ (s10 ++ (s11 ++ (s12 ++ (s13 ++ (s14 ++ (s15 ++ (R)))))))))))))))))) := by
 refine h.perm ?_
 have := List.perm_append_comm_assoc (s0 ++ s1 ++ s2 ++ s3 ++ s4 ++ s5 ++ s6 ++ s7 ++ s8 ++ s9 ++ s10 ++ s11 ++ s12 ++ s13 ++ s14 ++ s15) S R
 simpa only [List.append_assoc] using this
end
theorem clone_ev {tab : Nat → Option XFun} {sp : Nat → List AV → AH → Option (AV × AH)} (h34 : tab 34 = some x34) {H : AH} (hok : H.Ok) {ba : Option (Nat × Nat)} {bn bc bg : Nat} (bhg : bg = 0 ∨ bg = 1) {lb : List UInt8} (bhb : Bs H (.sl ba bn bc bg) lb) (bhc : bn ≤ bc) (bhm : bc ≤ 9223372036854775807) (hfit : bn ≤ 1073741824) : Ev tab sp (.fn (.func 34) [] []) [.sl ba bn bc bg] H (fun r H' => Mine H.next 1 H' r (bcells (lb)) ∧ Kp H H') := by
 refine Ev_C (F := x34) h34 ?_
 have bhl := bhb.length
 subst bhl
 have hO0 := Old.refl hok
 refine C_seq  (C_region  (pv (.sl none 0 0 0) rfl (O_nil  (C_seq  (C_seq  (C_region  (pv (.sl ba lb.length bc bg) rfl (O_p (.b (if false = true then !ba.isNone else ba.isNone)) (r_nils rfl) (O_nil  ?_)))))))))
 refine C_cond (x := (if false = true then !ba.isNone else ba.isNone)) rfl (fun hc1 => ?_) (fun hc1 => ?_)
 ·
  have hcx := hc1
  refine C_seq  (C_region  (pv (.sl none 0 0 0) rfl (O_nil  (C_ret  (nx_ret  ?_)))))
  have hnil : ba = none := by simpa using hcx
  subst hnil
  obtain rfl := bhb.nilof
  exact ⟨.inr rfl, _, resL_one (r_tmp (v := .sl none 0 0 0) rfl), Mine.nil _ _ _, hO0⟩
 ·
  have hcx := hc1
  refine C_skip  (C_seq  (C_region  ?_))
  refine O_bslice (c := []) rfl fun n2 H3 hN4 => ?_
  have hF5 := hN4.fr (fun _ => False)
  have hO6 := hO0.new hN4
  have hx_hO6 := hO6.next
  have hnm_n2 : n2 = H.next := hN4.1
  have hnx_H3 : H3.next = H.next + 1 := hN4.2.1
  have hlt_n2 : n2 < H3.next := by omega
  refine pv (.sl ba lb.length bc bg) rfl ?_
  have hM7 : Mine H.next 1 H3 (.sl (some (n2, 0)) 0 0 0) [] := ⟨.mk (n := 0) hN4.2.2.1 (by omega) (.inl rfl) rfl, fun q hq => by rw [nameOf_sl] at hq; omega⟩
  refine O_qh (by exact r_app (n := 0) (k := lb.length) (new := (bcells lb)) hO6.ok hO6.next hM7 rfl rfl rfl ((bhb.old hok hO6).len) ((bhb.old hok hO6).src) ((bcells_len _).trans (Nat.mul_one _).symm) (by decide) (by decide) (by first | omega | (simp only [List.length_take, List.length_drop, List.length_append, List.length_cons, List.length_nil, beN_len] <;> omega))) fun o8 H9 hA10 => ?_
  have hx_H9 := hA10.2.1
  have hO11 := hA10.old hM7 hO6
  have hx_hO11 := hO11.next
  refine pv o8 rfl (O_nil  (C_ret  ?_))
  exact ⟨.inr rfl, _, resL_one (r_tmp (v := o8) rfl), by have h := hA10.1; simpa [resV] using h, hO11⟩
theorem new_ev {H : AH} {R : HL} {a : Int} (hH0 : Hs H R) : Ev tabA spA (.fn (.func 11) [] []) [.i .u32 a] H (fun r H' => ∃ F, r = .p (some (F, 0)) ∧ Hs H' ([(F, some (.cells [.sl none 0 0 0, .i .u32 a] true))] ++ R)) := by
 refine Ev_C (F := x11) rfl ?_
 refine C_seq  (C_region  (pv (.p none) rfl (O_nil  (C_seq  (C_region  (pv (.i .u32 a) rfl (O_p (.agg [(.sl none 0 0 0), (.i .u32 a)]) (r_build rfl) ?_)))))))
 refine O_box (z := [(.sl none 0 0 0), (.i .u32 a)]) rfl fun n1 H2 hN3 => ?_
 have hH4 := hH0.new hN3
 refine pv (pT n1 0) rfl (O_nil  (C_ret  ?_))
 exact ⟨.inr rfl, _, resL_one (r_tmp (v := (.p (some (n1, 0)))) rfl), n1, rfl, hH4⟩
theorem nodata_ev {H : AH} {R : HL} {c : Cx} {a : Int} {da : Option (Nat × Nat)} {dc dg : Nat} (hk : c.k = 0) (hd : 0 < c.d.length) (hH0 : Hs H R) : Ev tabA spA (.fn (.func 33) [] []) [.agg (cxRow c a (.sl da c.d.length dc dg))] H (fun r H' => r = .b false ∧ Hs H' R) := by
 unfold cxRow
 refine Ev_C (F := x33) rfl ?_
 refine C_seq  (C_region  ?_)
 refine O_box (z := [(.i .u8 c.k), (.i .u8 c.f), (.i .u32 a), (.i .u32 c.b), (.i .u16 c.o), (.i .u16 c.i), (.i .u32 c.p), c.x1, c.x2, c.x3, c.x4, (.sl da c.d.length dc dg)]) rfl fun n1 H2 hN3 => ?_
 have hH4 := hH0.new hN3
 refine pv (.b false) rfl (O_nil  (C_seq  (C_region  (pf (pT n1 0) rfl rfl (O_p (.i .u8 c.k) (r_ld rfl hH4.get0 rfl) (O_p (.b false) (by exact (by rw [r_neq rfl rfl, decide_eq_true hk]; rfl)) (pv (.b false) rfl (O_gk rfl (pf (pT n1 11) rfl rfl (O_gk rfl (O_p (.sl da c.d.length dc dg) (r_ld rfl hH4.get0 rfl) (O_gk rfl (O_p (.i .i64 (((c.d.length : Nat)) : Int)) (r_len rfl) ?_)))))))))))))
 refine O_gk rfl (O_p (.b false) (by exact (by rw [r_eql rfl rfl, decide_eq_false (by omega)])) (O_p (.b false) (r_pick_f rfl rfl) (pv (.b false) rfl (O_nil  (C_ret  ?_)))))
 have hH5 := (hH4.sub0)
 exact ⟨.inr rfl, _, resL_one (r_tmp (v := (.b false)) rfl), rfl, hH5⟩
theorem ixf_ev {H : AH} {R B : HL} {v : AV} {rows : List (List AV)} {cs : List (Cx × Int)} (hv : ∀ H', Hs H' B → Rw 12 H' v rows) (hcr : CxsR B rows cs) (hgood : ∀ c ∈ cs, c.1.k = 0 ∧ 0 < c.1.d.length) (hcl : cs.length ≤ 1000000) (hH0 : Hs H (B ++ R)) : Ev tabA spA (.fn (.func 58) [] []) [v, .fn (.func 33) [] []] H (fun r H' => r = .i .i64 (-1) ∧ Hs H' (B ++ R)) := by
 refine Ev_C (F := x58) rfl ?_
 refine C_seq  (C_region  (pv (.i .i64 0) rfl (O_nil  (C_seq  (C_seq  (C_region  (pv v rfl (O_p (.i .i64 (((cs.length : Nat)) : Int)) (r_lenOf (v := v) (n := cs.length) rfl ((hv _ hH0.top0.fst).lenOf hcr.1) (hv _ hH0.top0.fst).isSl) (pv (.i .i64 0) rfl (O_nil  (C_block  ?_)))))))))))
 refine C_while (fun m1 T2 H3 => ∃ j : Nat, m1 = cs.length - j ∧ j ≤ cs.length ∧ cs.length ≤ 1000000 ∧ Hs H3 (B ++ (R)) ∧ T2.get 0 = v ∧ T2.get 1 = (.fn (.func 33) [] []) ∧ T2.get 7 = (.i .i64 (((cs.length : Nat)) : Int)) ∧ T2.get 8 = (.i .i64 (((j : Nat)) : Int))) (fun m1 T2 H3 hI4 => ?_) cs.length _ _ ⟨0, rfl, Nat.zero_le _, hcl, hH0, rfl, rfl, rfl, rfl⟩
 obtain ⟨j, hm5, hp6, hp7, hH12, hT8, hT9, hT10, hT11⟩ := hI4
 refine C_seq  (C_region  (O_p (.b (decide ((((j : Nat)) : Int) < (((cs.length : Nat)) : Int)))) (r_lss hT11 hT10) (O_nil  (C_seq  ?_))))
 refine C_cond (x := (decide ((((j : Nat)) : Int) < (((cs.length : Nat)) : Int)))) rfl (fun hc13 => ?_) (fun hc13 => ?_)
 ·
  try simp only [dz1, dz2, dz3, dz4, dz5, dz6, dz7, dz8, dz9] at hc13
  refine C_skip  (C_seq  (C_block  (C_seq  (C_region  (pv (nI j) hT11 (pv (nI j) rfl (O_nil  (C_seq  (C_region  (pv (.fn (.func 33) [] []) hT9 (pv v hT8 (pv (nI j) rfl ?_))))))))))))
  have hjl : j < cs.length := by omega
  obtain ⟨x, dv, hxi, hri, hoc⟩ := hcr.get hjl
  have hgx := hgood x (List.mem_of_getElem? hxi)
  obtain ⟨da, dc, dg, de, dhg, dhc, dhm, dhb⟩ := hoc
  subst de
  unfold cxRow at hri
  refine O_q (by exact Rw.row (hv _ hH12.top0.fst) rfl (i := j) rfl (r := [(.i .u8 x.1.k), (.i .u8 x.1.f), (.i .u32 x.2), (.i .u32 x.1.b), (.i .u16 x.1.o), (.i .u16 x.1.i), (.i .u32 x.1.p), x.1.x1, x.1.x2, x.1.x3, x.1.x4, (.sl da x.1.d.length dc dg)]) hri) fun v15 hv14 => ?_
  obtain ⟨rb16, ro17, rfl, hr18⟩ := hv14
  refine O_p (.agg [(.i .u8 x.1.k), (.i .u8 x.1.f), (.i .u32 x.2), (.i .u32 x.1.b), (.i .u16 x.1.o), (.i .u16 x.1.i), (.i .u32 x.1.p), x.1.x1, x.1.x2, x.1.x3, x.1.x4, (.sl da x.1.d.length dc dg)]) (r_ldRA (q := 0) rfl (hr18 _ (hv _ hH12.top0.fst)) rfl) ?_
  refine O_call (Ev.mono (nodata_ev (c := x.1) (a := x.2) hgx.1 hgx.2 hH12) fun v19 H20 hq21 => ?_)
  obtain ⟨rfl, hH22⟩ := hq21
  refine O_nil  ?_
  refine C_cond (x := false) rfl (fun h => by cases h) (fun _ => ?_)
  refine C_skip  (C_region  (O_p (.i .i64 ((((j : Nat)) : Int) + 1)) (by exact (r_addi hT11 rfl (wrap_i64 (by omega) (by omega)))) (pv (.i .i64 ((((j : Nat)) : Int) + 1)) rfl (O_nil  ?_))))
  exact ⟨cs.length - (j + 1), by omega, (j + 1), rfl, by omega, hcl, hH22, hT8, hT9, hT10, rfl⟩
 ·
  try simp only [dz1, dz2, dz3, dz4, dz5, dz6, dz7, dz8, dz9] at hc13
  refine C_exit  (nx_exit  (nx_exit  (bk_hit  (C_seq  (C_region  (pv (.i .i64 (-1)) rfl (O_nil  (C_ret  ?_))))))))
  exact ⟨.inr rfl, _, resL_one (r_tmp (v := (.i .i64 (-1))) rfl), rfl, hH12⟩
theorem cont_ev {H : AH} {R B : HL} {v : AV} {rows : List (List AV)} {cs : List (Cx × Int)} (hv : ∀ H', Hs H' B → Rw 12 H' v rows) (hcr : CxsR B rows cs) (hgood : ∀ c ∈ cs, c.1.k = 0 ∧ 0 < c.1.d.length) (hcl : cs.length ≤ 1000000) (hH0 : Hs H (B ++ R)) : Ev tabA spA (.fn (.func 32) [] []) [v, .fn (.func 33) [] []] H (fun r H' => r = .b false ∧ Hs H' (B ++ R)) := by
 refine Ev_C (F := x32) rfl ?_
 refine C_seq  (C_region  (pv (.b false) rfl (O_nil  (C_seq  (C_region  (pv v rfl (pv (.fn (.func 33) [] []) rfl ?_)))))))
 refine O_call (Ev.mono (ixf_ev hv hcr hgood hcl hH0) fun v1 H2 hq3 => ?_)
 obtain ⟨rfl, hH4⟩ := hq3
 refine O_p (.b false) (by exact (by rw [r_geq rfl rfl, decide_eq_false (by decide)])) (pv (.b false) rfl (O_nil  (C_ret  ?_)))
 exact ⟨.inr rfl, _, resL_one (r_tmp (v := (.b false)) rfl), rfl, hH4⟩
set_option linter.unusedVariables false
set_option linter.unusedSimpArgs false
theorem ss_get {ss : List Int} {i : Nat} {y : Int} (h : ss[i]? = some y) : takeAt (ss.map fun z => AV.i IntKind.i64 z) (i * 1) 1 = some [.i .i64 y] := by
 obtain ⟨hl, rfl⟩ := List.getElem?_eq_some_iff.1 h
 rw [Nat.mul_one, takeAt_ok (by rw [List.length_map]; omega), List.drop_eq_getElem_cons (by rw [List.length_map]; exact hl), List.take_succ_cons, List.take_zero, List.getElem_map]
theorem index_ev {H : AH} {R : HL} {sb : Nat} {ss : List Int} {st : Int} (hsl : ss.length ≤ 1000) (hH0 : Hs H ([(sb, some (.cells (ss.map fun z => AV.i IntKind.i64 z) true))] ++ R)) : Ev tabA spA (.fn (.func 72) [] []) [.sl (some (sb, 0)) ss.length ss.length 0, .i .i64 st] H (fun r H' => H' = H ∧ ((r = .i .i64 (-1) ∧ st ∉ ss) ∨ ∃ i : Nat, r = .i .i64 ((i : Nat) : Int) ∧ st ∈ ss)) := by
 refine Ev_C (F := x72) rfl ?_
 refine C_seq  (C_region  (pv (.i .i64 0) rfl (O_nil  (C_seq  (C_seq  (C_region  (pv (.sl (some (sb, 0)) ss.length ss.length 0) rfl (O_p (.i .i64 (((ss.length : Nat)) : Int)) (r_len rfl) (pv (.i .i64 0) rfl (O_nil  (C_block  ?_)))))))))))
 refine C_while (fun m1 T2 H3 => ∃ i : Nat, m1 = ss.length - i ∧ i ≤ ss.length ∧ H3 = H ∧ (∀ k, k < i → ss[k]? ≠ some st) ∧ T2.get 0 = .sl (some (sb, 0)) ss.length ss.length 0 ∧ T2.get 1 = .i .i64 st ∧ T2.get 7 = .i .i64 ((ss.length : Nat) : Int) ∧ T2.get 8 = .i .i64 ((i : Nat) : Int)) (fun m1 T2 H3 hI4 => ?_) ss.length _ _ ⟨0, rfl, Nat.zero_le _, rfl, fun k hk => absurd hk (Nat.not_lt_zero _), rfl, rfl, rfl, rfl⟩
 obtain ⟨i, hm, hi, rfl, hno, hT0, hT1, hT7, hT8⟩ := hI4
 refine C_seq  (C_region  (O_p (.b (decide ((((i : Nat)) : Int) < (((ss.length : Nat)) : Int)))) (r_lss hT8 hT7) (O_nil  (C_seq  ?_))))
 refine C_cond (x := (decide ((((i : Nat)) : Int) < (((ss.length : Nat)) : Int)))) rfl (fun hc5 => ?_) (fun hc5 => ?_)
 ·
  try simp only [dz1, dz2, dz3, dz4, dz5, dz6, dz7, dz8, dz9] at hc5
  refine C_skip  (C_seq  (C_block  (C_seq  (C_region  (pv (nI i) hT8 (pv (nI i) rfl (O_nil  (C_seq  (C_region  (pv (.i .i64 st) hT1 (pv (.sl (some (sb, 0)) ss.length ss.length 0) hT0 (pv (nI i) rfl ?_))))))))))))
  have hil : i < ss.length := by omega
  obtain ⟨y, hyi⟩ : ∃ y, ss[i]? = some y := ⟨_, List.getElem?_eq_getElem hil⟩
  refine O_p (.p (some (sb, (i * 1 + 0)))) (by exact (r_islr (b := sb) (k := i) (len := ss.length) (cap := ss.length) (g := 0) rfl rfl (by omega))) (O_p (.i .i64 y) (r_ldR (q := 0) rfl ⟨_, _, hH0.top0.get, ss_get hyi⟩ rfl) (O_p (.b (decide (st = y))) (r_eql rfl rfl) (O_nil  ?_)))
  refine C_cond (x := (decide (st = y))) rfl (fun hc6 => ?_) (fun hc6 => ?_)
  ·
   try simp only [dz1, dz2, dz3, dz4, dz5, dz6, dz7, dz8, dz9] at hc6
   have hne : ss[i]? = some st := by rw [hyi]; rw [hc6]
   refine C_seq  (C_region  (pv (nI i) rfl (pv (nI i) rfl (O_nil  (C_ret  (bk_ret  (nx_ret  (nx_ret  (bk_ret  (nx_ret  ?_))))))))))
   exact ⟨.inr rfl, _, resL_one (r_tmp (v := (.i .i64 (((i : Nat)) : Int))) rfl), rfl, .inr ⟨i, rfl, List.mem_of_getElem? hne⟩⟩
  ·
   try simp only [dz1, dz2, dz3, dz4, dz5, dz6, dz7, dz8, dz9] at hc6
   have hne : ss[i]? ≠ some st := by rw [hyi]; intro h9; simp only [Option.some.injEq] at h9; exact hc6 h9.symm
   refine C_skip  (C_region  (O_p (.i .i64 ((((i : Nat)) : Int) + 1)) (by exact (r_addi hT8 rfl (wrap_i64 (by omega) (by omega)))) (pv (.i .i64 ((((i : Nat)) : Int) + 1)) rfl (O_nil  ?_))))
   exact ⟨ss.length - (i + 1), by omega, i + 1, rfl, by omega, rfl, fun k hk => by rcases Nat.lt_succ_iff_lt_or_eq.1 hk with h | rfl; exact hno k h; exact hne, hT0, hT1, hT7, rfl⟩
 ·
  try simp only [dz1, dz2, dz3, dz4, dz5, dz6, dz7, dz8, dz9] at hc5
  refine C_exit  (nx_exit  (nx_exit  (bk_hit  (C_seq  (C_region  (pv (.i .i64 (-1)) rfl (O_nil  (C_ret  ?_))))))))
  exact ⟨.inr rfl, _, resL_one (r_tmp (v := .i .i64 (-1)) rfl), rfl, .inl ⟨rfl, fun hmem => by obtain ⟨k, hk⟩ := List.getElem?_of_mem hmem; exact hno k (by have := (List.getElem?_eq_some_iff.1 hk).1; omega) hk⟩⟩
theorem contains_in {H : AH} {R : HL} {sb : Nat} {ss : List Int} {st : Int} (hsl : ss.length ≤ 1000) (hin : st ∈ ss) (hH0 : Hs H ([(sb, some (.cells (ss.map fun z => AV.i IntKind.i64 z) true))] ++ R)) : Ev tabA spA (.fn (.func 60) [] []) [.sl (some (sb, 0)) ss.length ss.length 0, .i .i64 st] H (fun r H' => H' = H ∧ r = .b true) := by
  refine Ev_C (F := x60) rfl ?_
  refine C_seq  (C_region  (pv (.b false) rfl (O_nil  (C_seq  (C_region  (pv (.sl (some (sb, 0)) ss.length ss.length 0) rfl (pv (.i .i64 st) rfl ?_)))))))
  refine O_call (Ev.mono (index_ev hsl hH0) fun v1 H2 hq3 => ?_)
  obtain ⟨rfl, ⟨_, hn⟩ | ⟨ix, rfl, _⟩⟩ := hq3
  · exact absurd hin hn
  refine O_p (.b true) (by exact (by rw [r_geq rfl rfl, decide_eq_true (by omega)])) (pv (.b true) rfl (O_nil  (C_ret  ?_)))
  exact ⟨.inr rfl, _, resL_one (r_tmp (v := (.b true)) rfl), rfl, rfl⟩
theorem contains_out {H : AH} {R : HL} {sb : Nat} {ss : List Int} {st : Int} (hsl : ss.length ≤ 1000) (hin : st ∉ ss) (hH0 : Hs H ([(sb, some (.cells (ss.map fun z => AV.i IntKind.i64 z) true))] ++ R)) : Ev tabA spA (.fn (.func 60) [] []) [.sl (some (sb, 0)) ss.length ss.length 0, .i .i64 st] H (fun r H' => H' = H ∧ r = .b false) := by
  refine Ev_C (F := x60) rfl ?_
  refine C_seq  (C_region  (pv (.b false) rfl (O_nil  (C_seq  (C_region  (pv (.sl (some (sb, 0)) ss.length ss.length 0) rfl (pv (.i .i64 st) rfl ?_)))))))
  refine O_call (Ev.mono (index_ev hsl hH0) fun v1 H2 hq3 => ?_)
  obtain ⟨rfl, ⟨rfl, _⟩ | ⟨ix, _, hn⟩⟩ := hq3
  rotate_left
  · exact absurd hn hin
  refine O_p (.b false) (by exact (by rw [r_geq rfl rfl, decide_eq_false (by omega)])) (pv (.b false) rfl (O_nil  (C_ret  ?_)))
  exact ⟨.inr rfl, _, resL_one (r_tmp (v := (.b false)) rfl), rfl, rfl⟩
theorem in_ev {H : AH} {R : HL} {F sb : Nat} {ss : List Int} (hH0 : Hs H R) : Ev tabA spA (.fn (.func 35) [] []) [.p (some (F, 0)), (.sl (some (sb, 0)) ss.length ss.length 0)] H (fun r H' => ∃ b1 b2, r = .fn (.func 59) [] [.p (some (b1, 0)), .p (some (b2, 0))] ∧ Hs H' ([(b1, some (.cells [.p (some (F, 0))] true))] ++ ([(b2, some (.cells [(.sl (some (sb, 0)) ss.length ss.length 0)] true))] ++ R))) := by
 refine Ev_C (F := x35) rfl ?_
 refine C_seq  (C_region  ?_)
 refine O_box (z := [(.p (some (F, 0)))]) rfl fun n1 H2 hN3 => ?_
 have hH4 := hH0.new hN3
 refine O_box (z := [(.sl (some (sb, 0)) ss.length ss.length 0)]) rfl fun n5 H6 hN7 => ?_
 have hH8 := hH4.new hN7
 refine pv .nf rfl (O_nil  (C_seq  (C_region  (O_p (.fn (.func 59) [] [(pT n1 0), (pT n5 0)]) rfl (pv (.fn (.func 59) [] [(pT n1 0), (pT n5 0)]) rfl (O_nil  (C_ret  ?_)))))))
 have hH9 := (hH8.top1)
 exact ⟨.inr rfl, _, resL_one (r_tmp (v := (.fn (.func 59) [] [(.p (some (n1, 0))), (.p (some (n5, 0)))])) rfl), n1, n5, rfl, hH9⟩
theorem en_same {q q0 : List En} {j : Nat} {e : En} (hn : q.map En.nm = q0.map En.nm) (he : (q[j]?).map En.e = (q0[j]?).map En.e) (h : q0[j]? = some e) : ∃ x, q[j]? = some x ∧ x.n = e.n ∧ x.e = e.e := by
  rw [h] at he
  cases hx : q[j]? with
  | none => rw [hx] at he; cases he
  | some x =>
    rw [hx] at he
    simp only [Option.map_some, Option.some.injEq] at he
    have e2 := congrArg (fun l => l[j]?) hn
    simp only [List.getElem?_map, hx, h, Option.map_some, Option.some.injEq] at e2
    exact ⟨x, rfl, congrArg Prod.fst e2, he⟩
theorem in1_ev {H : AH} {F sb b1 b2 L : Nat} {lv : AV} {lc : List AV} {nx : Int} {ss : List Int} {q0 : List En} (hlv : Sq 1 lv lc (q0.map En.pr).flatten) (hql : q0.length ≤ 100000) (hsl : ss.length ≤ 1000) (I : Nat → AH → Prop) (Out : AH → Prop) (hI0 : I 0 H)
  (hIH : ∀ j H1, I j H1 → ∃ (q : List En) (R1 : HL), q.map En.nm = q0.map En.nm ∧ (∀ k, j ≤ k → (q[k]?).map En.e = (q0[k]?).map En.e) ∧ Hs H1 ([(b1, some (.cells ([(.p (some (F, 0)))]) true))] ++ ([(b2, some (.cells ([(.sl (some (sb, 0)) ss.length ss.length 0)]) true))] ++ ([(sb, some (.cells (ss.map fun z => AV.i IntKind.i64 z) true))] ++ ([(F, some (.cells ([lv, (.i .u32 nx)]) true))] ++ ((qseg lv lc) ++ ((q.flatMap En.seg) ++ (R1))))))))
  (hIk : ∀ j H1 H2, H1.next ≤ H2.next → (∀ z, z < H1.next → H2.get z = H1.get z) → H2.Ok → I j H1 → I j H2)
  (hs : ∀ j H1 e, q0[j]? = some e → e.e.st ∉ ss → I j H1 → I (j + 1) H1)
  (hy : ∀ j H1 e, q0[j]? = some e → e.e.st ∈ ss → I j H1 → Ev tabA spA (.fn (.yield L) [] []) [.p (some (e.n, 0))] H1 (fun r H2 => ∃ b, r = .b b ∧ (b = true → I (j + 1) H2) ∧ (b = false → Out H2))) :
  Ev tabA spA (.fn (.func 59) [] [.p (some (b1, 0)), .p (some (b2, 0))]) [.fn (.yield L) [] []] H (fun _ H' => I q0.length H' ∨ Out H') := by
 refine Ev_C (F := x59) rfl ?_
 obtain ⟨q1, R2, hn3, he4, hH5⟩ := hIH 0 H hI0
 refine C_seq  (C_seq  (C_region  (O_p (pT F 0) (r_ld rfl hH5.get0 rfl) (O_p (.b false) (r_nilq_s rfl) (O_nil  ?_)))))
 refine C_cond (x := false) rfl (fun h => by cases h) (fun _ => ?_)
 refine C_skip  (C_seq  (C_region  (O_p (pT F 0) (r_ld rfl hH5.get0 rfl) (O_p (pT F 0) (r_nilc rfl) (pf (pT F 0) rfl rfl (O_p lv (r_ld rfl hH5.get3 rfl) (O_p (.i .i64 (((q0.length : Nat)) : Int)) (by exact (by exact r_lenOf rfl (hlv.lenOf ((flat_len (pr_lens q0)).trans (by rw [List.length_map])) (by decide)) hlv.isSl)) (pv (.i .i64 0) rfl (O_nil  (C_block  ?_))))))))))
 refine C_while (fun m6 T7 H8 => ∃ j : Nat, m6 = q0.length - j ∧ j ≤ q0.length ∧ I j H8 ∧ T7.get 0 = (.fn (.yield L) [] []) ∧ T7.get 2 = .p (some (b2, 0)) ∧ T7.get 11 = lv ∧ T7.get 12 = .i .i64 ((q0.length : Nat) : Int) ∧ T7.get 13 = .i .i64 ((j : Nat) : Int)) (fun m6 T7 H8 hI9 => ?_) q0.length _ _ ⟨0, rfl, Nat.zero_le _, hI0, rfl, rfl, rfl, rfl, rfl⟩
 obtain ⟨j, hm, hj, hIj, hT0, hT2, hT11, hT12, hT13⟩ := hI9
 obtain ⟨q10, R11, hn12, he13, hH14⟩ := hIH j H8 hIj
 refine C_seq  (C_region  (O_p (.b (decide ((((j : Nat)) : Int) < (((q0.length : Nat)) : Int)))) (r_lss hT13 hT12) (O_nil  (C_seq  ?_))))
 refine C_cond (x := (decide ((((j : Nat)) : Int) < (((q0.length : Nat)) : Int)))) rfl (fun hc15 => ?_) (fun hc15 => ?_)
 ·
  try simp only [dz1, dz2, dz3, dz4, dz5, dz6, dz7, dz8, dz9] at hc15
  refine C_skip  (C_seq  (C_block  (C_seq  (C_region  ?_))))
  have hjl : j < q0.length := by omega
  obtain ⟨e0, h0j⟩ : ∃ e, q0[j]? = some e := ⟨_, List.getElem?_eq_getElem hjl⟩
  obtain ⟨x, hxj, hxn, hxe⟩ := en_same hn12 (he13 j (Nat.le_refl _)) h0j
  refine O_q (by exact Sq.cell hlv (pr_lens q0) hH14.top4 (by exact hT11) (i := j) (by exact hT13) (r := [(.p (some (x.n, 0)))]) (by rw [hxn]; exact pr_get h0j) (by decide)) fun v17 hv16 => ?_
  obtain ⟨rb18, ro19, rfl, hrg20, hrt21, hrb22, hput23, hqs24⟩ := hv16
  refine O_p (pT x.n 0) (r_ldR (q := 0) rfl ⟨_, _, hrg20, hrt21⟩ rfl) (pv (pT x.n 0) rfl (O_nil  (C_seq  ?_)))
  have hH25 := (hH14.top5)
  have hH26 := En.out hxj hH25
  by_cases hin : e0.e.st ∈ ss
  ·
   refine C_draw fun b27 H28 hbase29 hA30 => ?_
   have hH31 := hH26.keep (by have := hA30.1; omega) (fun q _ => hA30.2 q) ((hH26.old).aside hA30).ok
   refine D_l (v := (pT x.n 0)) rfl rfl rfl (r_mv rfl) (D_l (v := (pT x.n 0)) rfl rfl rfl (r_nilc rfl) (D_l (v := (pT x.n 13)) rfl rfl rfl (r_fadd' rfl rfl) (D_r (v := (.sl (some (sb, 0)) ss.length ss.length 0)) rfl rfl rfl (r_ld hT2 hH31.get3 rfl) (D_r (v := (.i .i64 x.e.st)) rfl rfl rfl (r_ld rfl hH31.get0 rfl) ?_))))
   have hH32 := (hH31.top4)
   refine D_call (Ev.mono (contains_in (st := x.e.st) hsl (by rw [hxe]; exact hin) hH32) fun v33 H34 hq35 => ?_)
   obtain ⟨rfl, rfl⟩ := hq35
   refine And.intro (And.intro (Or.inl rfl) (And.intro (Or.inl rfl) True.intro)) (D_l (v := (.b true)) rfl rfl rfl (r_mv rfl) (D_gk rfl (D_l (v := (.fn (.yield L) [] [])) rfl rfl rfl (r_mv hT0) (D_gk rfl (D_l (v := (pT x.n 0)) rfl rfl rfl (r_mv rfl) (D_gk rfl ?_))))))
   have hI7 := hIk j _ H34 (by have := hA30.1; omega) (fun z _ => hA30.2 z) hH32.ok hIj
   refine D_call (Ev.mono (by rw [hxn]; exact hy j H34 e0 h0j hin hI7) fun v36 H37 hq38 => ?_)
   obtain ⟨yb, rfl, hyt, hyf⟩ := hq38
   refine And.intro True.intro (D_gk rfl (D_l (v := (.b (!yb))) rfl rfl rfl (r_not rfl) (D_l (v := (.b (!yb))) rfl rfl rfl (r_pick_t rfl rfl) (D_nil  ?_))))
   refine C_cond (x := (!yb)) rfl (fun hc39 => ?_) (fun hc39 => ?_)
   ·
    try simp only [dz1, dz2, dz3, dz4, dz5, dz6, dz7, dz8, dz9] at hc39
    have hyb : yb = false := by simpa using hc39
    refine C_ret  (bk_ret  (nx_ret  (nx_ret  (bk_ret  ?_))))
    exact ⟨.inr rfl, [], rfl, .inr (hyf hyb)⟩
   ·
    try simp only [dz1, dz2, dz3, dz4, dz5, dz6, dz7, dz8, dz9] at hc39
    have hyb : yb = true := by simpa using hc39
    have hI2 := hyt hyb
    refine C_skip  (C_region  (O_p (.i .i64 ((((j : Nat)) : Int) + 1)) (by exact (r_addi hT13 rfl (wrap_i64 (by omega) (by omega)))) (pv (.i .i64 ((((j : Nat)) : Int) + 1)) rfl (O_nil  ?_))))
    exact ⟨q0.length - (j + 1), by omega, j + 1, rfl, by omega, hI2, hT0, hT2, hT11, hT12, rfl⟩
  ·
   refine C_draw fun b40 H41 hbase42 hA43 => ?_
   have hH44 := hH26.keep (by have := hA43.1; omega) (fun q _ => hA43.2 q) ((hH26.old).aside hA43).ok
   refine D_l (v := (pT x.n 0)) rfl rfl rfl (r_mv rfl) (D_l (v := (pT x.n 0)) rfl rfl rfl (r_nilc rfl) (D_l (v := (pT x.n 13)) rfl rfl rfl (r_fadd' rfl rfl) (D_r (v := (.sl (some (sb, 0)) ss.length ss.length 0)) rfl rfl rfl (r_ld hT2 hH44.get3 rfl) (D_r (v := (.i .i64 x.e.st)) rfl rfl rfl (r_ld rfl hH44.get0 rfl) ?_))))
   have hH45 := (hH44.top4)
   refine D_call (Ev.mono (contains_out (st := x.e.st) hsl (by rw [hxe]; exact hin) hH45) fun v46 H47 hq48 => ?_)
   obtain ⟨rfl, rfl⟩ := hq48
   refine And.intro (And.intro (Or.inl rfl) (And.intro (Or.inl rfl) True.intro)) (D_l (v := (.b false)) rfl rfl rfl (r_mv rfl) (D_gf rfl (D_gf rfl (D_gf rfl (D_gf rfl (D_l (v := (.b false)) rfl rfl rfl (r_pick_f rfl rfl) (D_nil  ?_)))))))
   refine C_cond (x := false) rfl (fun h => by cases h) (fun _ => ?_)
   refine C_skip  (C_region  ?_)
   have hI7 := hIk j _ H47 (by have := hA43.1; omega) (fun z _ => hA43.2 z) hH45.ok hIj
   have hI2 := hs j H47 e0 h0j hin hI7
   refine O_p (.i .i64 ((((j : Nat)) : Int) + 1)) (by exact (r_addi hT13 rfl (wrap_i64 (by omega) (by omega)))) (pv (.i .i64 ((((j : Nat)) : Int) + 1)) rfl (O_nil  ?_))
   exact ⟨q0.length - (j + 1), by omega, j + 1, rfl, by omega, hI2, hT0, hT2, hT11, hT12, rfl⟩
 ·
  try simp only [dz1, dz2, dz3, dz4, dz5, dz6, dz7, dz8, dz9] at hc15
  refine C_exit  (nx_exit  (nx_exit  (bk_hit  ?_)))
  have hjj : j = q0.length := by omega
  exact ⟨.inl rfl, [], rfl, .inl (by rw [← hjj]; exact hIj)⟩
set_option linter.unusedVariables false
set_option linter.unusedSimpArgs false
theorem size_ev {H : AH} {R : HL} {x : En} {da : Option (Nat × Nat)} {dc dg : Nat} {st se tm mi : Int} (hH0 : Hs H ([(x.n, some (.cells ([(.i .u8 x.e.c.k), (.i .u8 x.e.c.f), (.i .u32 x.e.a), (.i .u32 x.e.c.b), (.i .u16 x.e.c.o), (.i .u16 x.e.c.i), (.i .u32 x.e.c.p), x.e.c.x1, x.e.c.x2, x.e.c.x3, x.e.c.x4, (.sl da x.e.c.d.length dc dg), (.p (some (x.m, 0))), (.i .i64 st), (.i .i64 se), (.i .i64 tm), (.i .i64 mi)]) true))] ++ (R))) : Ev tabA spA (.fn (.func 36) [] []) [.p (some (x.n, 0))] H (fun r H' => r = .i .i64 ((x.e.c.d.length : Nat) : Int) ∧ Hs H' ([(x.n, some (.cells ([(.i .u8 x.e.c.k), (.i .u8 x.e.c.f), (.i .u32 x.e.a), (.i .u32 x.e.c.b), (.i .u16 x.e.c.o), (.i .u16 x.e.c.i), (.i .u32 x.e.c.p), x.e.c.x1, x.e.c.x2, x.e.c.x3, x.e.c.x4, (.sl da x.e.c.d.length dc dg), (.p (some (x.m, 0))), (.i .i64 st), (.i .i64 se), (.i .i64 tm), (.i .i64 mi)]) true))] ++ (R))) := by
  refine Ev_C (F := x36) rfl ?_
  refine C_seq  (C_region  (pv (.i .i64 0) rfl (O_nil  (C_seq  (C_region  (pv (pT x.n 0) rfl (O_p (pT x.n 0) (r_nilc rfl) (pf (pT x.n 0) rfl rfl (pf (pT x.n 11) rfl rfl (O_p (.sl da x.e.c.d.length dc dg) (r_ld rfl hH0.get0 rfl) (O_p (.i .i64 (((x.e.c.d.length : Nat)) : Int)) (r_len rfl) (pv (.i .i64 (((x.e.c.d.length : Nat)) : Int)) rfl (O_nil  ?_)))))))))))))
  refine C_ret  ?_
  exact ⟨.inr rfl, _, resL_one (r_tmp (v := (.i .i64 (((x.e.c.d.length : Nat)) : Int))) rfl), rfl, hH0⟩
def octs (ss : List Int) : List Ea → Nat
  | [] => 0
  | e :: l => (if e.st ∈ ss then e.c.d.length else 0) + octs ss l
theorem octs_app {ss : List Int} {l2 : List Ea} : ∀ {l1 : List Ea}, octs ss (l1 ++ l2) = octs ss l1 + octs ss l2
  | [] => (Nat.zero_add _).symm
  | e :: l1 => by show _ + octs ss (l1 ++ l2) = _ + octs ss l1 + _; rw [octs_app, Nat.add_assoc]
theorem take_at {α : Type} {l : List α} {j : Nat} {x : α} (h : l[j]? = some x) : l.take (j + 1) = l.take j ++ [x] := by
 obtain ⟨hj, rfl⟩ := List.getElem?_eq_some_iff.1 h
 exact List.take_succ_eq_append_getElem hj
theorem en_e {q : List En} {j : Nat} {x : En} (h : q[j]? = some x) : (q.map En.e)[j]? = some x.e := by rw [List.getElem?_map, h]; rfl
theorem octs_yes {ss : List Int} {q : List En} {j : Nat} {x : En} (h : q[j]? = some x) (hs : x.e.st ∈ ss) : octs ss ((q.map En.e).take (j + 1)) = octs ss ((q.map En.e).take j) + x.e.c.d.length := by
 rw [take_at (en_e h), octs_app]
 show _ + ((if x.e.st ∈ ss then _ else 0) + 0) = _
 rw [if_pos hs]; omega
theorem octs_no {ss : List Int} {q : List En} {j : Nat} {x : En} (h : q[j]? = some x) (hs : x.e.st ∉ ss) : octs ss ((q.map En.e).take (j + 1)) = octs ss ((q.map En.e).take j) := by
 rw [take_at (en_e h), octs_app]
 show _ + ((if x.e.st ∈ ss then _ else 0) + 0) = _
 rw [if_neg hs]; omega
theorem octs_le {ss : List Int} : ∀ {l : List Ea}, (∀ e ∈ l, e.c.d.length ≤ 1000000) → octs ss l ≤ l.length * 1000000
  | [], _ => Nat.zero_le _
  | e :: l, h => by
    have h1 := octs_le (ss := ss) (l := l) fun x hx => h x (List.mem_cons_of_mem _ hx)
    have h2 := h e (List.mem_cons_self ..)
    show (if e.st ∈ ss then _ else 0) + octs ss l ≤ (l.length + 1) * 1000000
    split <;> omega
theorem total_ev {H : AH} {R D : HL} {F sb b1 b2 : Nat} {lv : AV} {lc : List AV} {nx : Int} {ss : List Int} {q : List En} (hlv : Sq 1 lv lc (q.map En.pr).flatten) (hql : q.length ≤ 100000) (hsl : ss.length ≤ 1000) (hok : ∀ x ∈ q, OctIn D x.dv x.e.c.d) (hsz : ∀ e ∈ q.map En.e, e.c.d.length ≤ 1000000) (hH0 : Hs H ([(b1, some (.cells ([(.p (some (F, 0)))]) true))] ++ ([(b2, some (.cells ([(.sl (some (sb, 0)) ss.length ss.length 0)]) true))] ++ ([(sb, some (.cells (ss.map fun z => AV.i IntKind.i64 z) true))] ++ ([(F, some (.cells ([lv, (.i .u32 nx)]) true))] ++ ((qseg lv lc) ++ ((q.flatMap En.seg) ++ (R)))))))) : Ev tabA spA (.fn (.func 65) [] []) [.fn (.func 59) [] [.p (some (b1, 0)), .p (some (b2, 0))], .fn (.func 36) [] []] H (fun r H' => r = .i .i64 ((octs ss (q.map En.e) : Nat) : Int) ∧ Hs H' ([(b1, some (.cells ([(.p (some (F, 0)))]) true))] ++ ([(b2, some (.cells ([(.sl (some (sb, 0)) ss.length ss.length 0)]) true))] ++ ([(sb, some (.cells (ss.map fun z => AV.i IntKind.i64 z) true))] ++ ([(F, some (.cells ([lv, (.i .u32 nx)]) true))] ++ ((qseg lv lc) ++ ((q.flatMap En.seg) ++ (R)))))))) := by
  refine Ev_C (F := x65) rfl ?_
  refine C_seq  (C_region  ?_)
  refine O_box (z := [(.fn (.func 36) [] [])]) rfl fun n1 H2 hN3 => ?_
  have hH4 := hH0.new hN3
  refine pv (.i .i64 0) rfl (O_nil  (C_seq  (C_region  ?_)))
  refine O_alloc fun n5 H6 hN7 => ?_
  have hH8 := hH4.new hN7
  refine O_store (vs := [(.i .i64 0)]) (c' := [(.i .i64 0)]) rfl (by rfl) hH8.get0 rfl (List.cons_ne_nil _ _) (Nat.le_of_ble_eq_true rfl) rfl fun H9 hW10 => ?_
  have hH11 := hH8.wr0 hW10
  refine O_nil  (C_seq  (C_seq  (C_region  (pv (.fn (.func 59) [] [.p (some (b1, 0)), .p (some (b2, 0))]) rfl (O_nil  (C_block  ?_))))))
  refine C_rangeFn (g := 59) (first := []) (cap := [.p (some (b1, 0)), .p (some (b2, 0))]) rfl fun Tx L HLL hTx hNL0 => ?_
  obtain ⟨LB, hLB, hNL⟩ := hNL0.loop
  have hH12 := hH11.new hNL
  have hH13 := (((((((((hH12.top1).top2).top2).top8).top8).top8).top8).top8).top8)
  refine Ev.mono (in1_ev (F := F) (sb := sb) (nx := nx) (ss := ss) (q0 := q) hlv hql hsl (fun j HH => Hs HH ([(b1, some (.cells ([(.p (some (F, 0)))]) true))] ++ ([(b2, some (.cells ([(.sl (some (sb, 0)) ss.length ss.length 0)]) true))] ++ ([(sb, some (.cells (ss.map fun z => AV.i IntKind.i64 z) true))] ++ ([(F, some (.cells ([lv, (.i .u32 nx)]) true))] ++ ((qseg lv lc) ++ ((q.flatMap En.seg) ++ ([(L, some LB)] ++ ([(n1, some (.cells ([(.fn (.func 36) [] [])]) true))] ++ ([(n5, some (.cells ([(.i .i64 ((((octs ss ((q.map En.e).take j)) : Nat)) : Int))]) true))] ++ (R))))))))))) (fun HH => False) ?_ ?_ ?_ ?_ ?_) fun v2 HE hE => ?_
  · exact hH13
  · rintro j H1 hh
    exact ⟨q, _, rfl, (fun _ _ => rfl), hh⟩
  · rintro j H1 H2 hn hk2 hok hh
    exact hh.keep hn hk2 hok
  · rintro j H1 e0 h0j hst hh
    rw [octs_no h0j hst]; exact hh
  ·
    rintro j HH e0 h0j hst hHb
    have hjl : j < q.length := (List.getElem?_eq_some_iff.1 h0j).1
    obtain ⟨x, hxj, hxn, hxe⟩ := en_same (q := q) rfl ((fun _ _ => rfl) j (Nat.le_refl _)) h0j
    rw [← hxn]
    refine Ev_yield ((hHb.get6).trans (congrArg some hLB)) rfl ?_
    refine C.te ?_ (hTx.cons 8 _)
    have hH14 := (hHb.top5)
    have hH15 := En.out hxj hH14
    obtain ⟨da, dc, dg, de, dhg, dhc, dhm, dhb⟩ := (hok x (List.mem_of_getElem? hxj))
    rw [de] at hH15
    refine C_region  (pv (pT x.n 0) rfl (O_nil  ?_))
    refine ⟨rfl, _, _, _, _, _, (hH15.get7).trans (congrArg some hLB), fun H2 hWb => ?_⟩
    have hH16 := hH15.wr7 hWb
    refine C_block  ?_
    refine C_draw fun b17 H18 hbase19 hA20 => ?_
    have hH21 := hH16.keep (by have := hA20.1; omega) (fun q _ => hA20.2 q) ((hH16.old).aside hA20).ok
    refine D_l (v := (pT x.n 0)) rfl rfl rfl (r_mv rfl) (D_r (v := (.i .i64 ((((octs ss ((q.map En.e).take j)) : Nat)) : Int))) rfl rfl rfl (r_ld rfl hH21.get9 rfl) (D_r (v := (.fn (.func 36) [] [])) rfl rfl rfl (r_ld rfl hH21.get8 rfl) ?_))
    refine D_call (Ev.mono (size_ev hH21) fun v22 H23 hq24 => ?_)
    obtain ⟨rfl, hH25⟩ := hq24
    refine And.intro (And.intro (Or.inl rfl) (And.intro (Or.inr (look_run rfl rfl (r_ld rfl hH25.get9 rfl))) True.intro)) ?_
    have hole := octs_le (ss := ss) (l := (q.map En.e).take j) (fun e he => hsz e (List.mem_of_mem_take he))
    have hxs := hsz x.e (List.mem_of_getElem? (en_e hxj))
    rw [List.length_take, List.length_map] at hole
    have hmin : min j q.length ≤ 100000 := Nat.le_trans (Nat.min_le_right _ _) hql
    refine D_l (v := (.i .i64 (((((octs ss ((q.map En.e).take j)) : Nat)) : Int) + (((x.e.c.d.length : Nat)) : Int)))) rfl rfl rfl (by exact (r_addi rfl rfl (wrap_i64 (by omega) (by omega)))) ?_
    refine D_store (vs := [(.i .i64 (((((octs ss ((q.map En.e).take j)) : Nat)) : Int) + (((x.e.c.d.length : Nat)) : Int)))]) (c' := [(.i .i64 (((((octs ss ((q.map En.e).take j)) : Nat)) : Int) + (((x.e.c.d.length : Nat)) : Int)))]) rfl (by rfl) hH25.get9 rfl (List.cons_ne_nil _ _) (Nat.le_of_ble_eq_true rfl) rfl fun H26 hW27 => ?_
    have hH28 := hH25.wr9 hW27
    refine And.intro (And.intro (Or.inl rfl) True.intro) (D_nil  ?_)
    refine ⟨_, _, _, _, _, (hH28.get7), fun H4 hWr => ?_⟩
    have hH29 := Hs.cong7 (B := [(L, some LB)]) (hH28.wr7 hWr) (by rw [hLB]; rfl)
    have hq2 : q[j]? = some x := hxj
    have hH30 := ((hH29.top1).top1)
    rw [← de] at hH30
    have hH31 := En.back0 hxj hH30
    have hH32 := (((((((((hH31.top8).top8).top8).top3).top8).top8).top8).top8).top8)
    exact ⟨_, rfl, fun _ => by rw [octs_yes hxj (by rw [hxe]; exact hst)]; exact hH32, fun h => by cases h⟩
  rcases hE with hE | hE
  ·
    have hHE : Hs HE _ := hE
    refine ⟨.ready, none, _, _, _, _, (hHE.get6).trans (congrArg some hLB), by decide, fun HD hD => ?_⟩
    have hH33 := hHE.drp6 hD
    rw [show (q.map En.e).take q.length = q.map En.e from by rw [List.take_of_length_le (by rw [List.length_map]; exact Nat.le_refl _)]] at hH33
    refine C_seq  (C_region  (O_p (.i .i64 ((((octs ss (q.map En.e)) : Nat)) : Int)) (r_ld rfl hH33.get7 rfl) (pv (.i .i64 ((((octs ss (q.map En.e)) : Nat)) : Int)) rfl (O_nil  (C_ret  ?_)))))
    have hH34 := ((hH33.sub6).sub6)
    have hH35 := ((((((hH34.top5).top5).top5).top5).top5).top5)
    exact ⟨.inr rfl, _, resL_one (r_tmp (v := (.i .i64 ((((octs ss (q.map En.e)) : Nat)) : Int))) rfl), rfl, hH35⟩
  · exact hE.elim
set_option linter.unusedVariables false
set_option linter.unusedSimpArgs false
def Ea.ca (e : Ea) : Cx × Int := (e.c, e.a)
def take2 (now : Int) (es : List Ea) (room : Int) : List Ea × List Ea := if (takeL 2 now es room).2.2.2 then ((takeL 2 now es room).1, (takeL 2 now es room).2.1) else ((takeL 0 now (takeL 2 now es room).1 (takeL 2 now es room).2.2.1).1, (takeL 2 now es room).2.1 ++ (takeL 0 now (takeL 2 now es room).1 (takeL 2 now es room).2.2.1).2.1)
section
variable {S now RM : Int} {q q0 : List En} {j : Nat} {e0 x y : En}
theorem drop_at {α : Type} {l : List α} {j : Nat} {x : α} (h : l[j]? = some x) : l.drop j = x :: l.drop (j + 1) := by
 obtain ⟨hj, rfl⟩ := List.getElem?_eq_some_iff.1 h
 exact List.drop_eq_getElem_cons hj
theorem tk_len : (takeL S now ((q0.map En.e).take j) RM).1.length = min j q0.length := by rw [takeL_len, List.length_take, List.length_map]
theorem tk_same {l1 : List Ea} (h : q.map En.e = l1 ++ (q0.map En.e).drop j) (hl : l1.length = min j q0.length) : ∀ k, j ≤ k → (q[k]?).map En.e = (q0[k]?).map En.e := fun k hk => by
  have e1 : (q[k]?).map En.e = (q.map En.e)[k]? := (List.getElem?_map ..).symm
  have e2 : (q0[k]?).map En.e = (q0.map En.e)[k]? := (List.getElem?_map ..).symm
  rw [e1, e2, h]
  by_cases hj : j ≤ q0.length
  · rw [Nat.min_eq_left hj] at hl
    rw [List.getElem?_append_right (by omega), List.getElem?_drop, hl]
    congr 1; omega
  · have h1 : (q0.map En.e).drop j = [] := List.drop_eq_nil_of_le (by rw [List.length_map]; omega)
    rw [h1, List.append_nil, List.getElem?_eq_none (by omega), List.getElem?_eq_none (by rw [List.length_map]; omega)]
theorem tk_skip (h : q0[j]? = some e0) (hst : ¬ e0.e.st = S) (hf : (takeL S now ((q0.map En.e).take j) RM).2.2.2 = false) : takeL S now ((q0.map En.e).take (j + 1)) RM = ((takeL S now ((q0.map En.e).take j) RM).1 ++ [e0.e], (takeL S now ((q0.map En.e).take j) RM).2.1, (takeL S now ((q0.map En.e).take j) RM).2.2.1, false) := by
 rw [take_at (en_e h), takeL_app, hf, takeL_ne hst]
 show (_, _ ++ [], _, false) = _
 rw [List.append_nil]; rfl
theorem tk_fly (h : q0[j]? = some e0) (hst : e0.e.st = S) (hf : (takeL S now ((q0.map En.e).take j) RM).2.2.2 = false) (hr : ¬ (takeL S now ((q0.map En.e).take j) RM).2.2.1 < (e0.e.c.d.length : Int)) : takeL S now ((q0.map En.e).take (j + 1)) RM = ((takeL S now ((q0.map En.e).take j) RM).1 ++ [e0.e.fly now], (takeL S now ((q0.map En.e).take j) RM).2.1 ++ [e0.e], (takeL S now ((q0.map En.e).take j) RM).2.2.1 - e0.e.c.d.length, false) := by
 rw [take_at (en_e h), takeL_app, hf, takeL_fit hst hr]; rfl
theorem tk_stop (h : q0[j]? = some e0) (hst : e0.e.st = S) (hf : (takeL S now ((q0.map En.e).take j) RM).2.2.2 = false) (hr : (takeL S now ((q0.map En.e).take j) RM).2.2.1 < (e0.e.c.d.length : Int)) : takeL S now (q0.map En.e) RM = ((takeL S now ((q0.map En.e).take j) RM).1 ++ (q0.map En.e).drop j, (takeL S now ((q0.map En.e).take j) RM).2.1, (takeL S now ((q0.map En.e).take j) RM).2.2.1, true) := by
 have e : takeL S now (q0.map En.e) RM = takeL S now ((q0.map En.e).take j ++ (q0.map En.e).drop j) RM := by rw [List.take_append_drop]
 rw [e, takeL_app, hf, drop_at (en_e h), takeL_full hst hr]
 show (_, _ ++ [], _, true) = _
 rw [List.append_nil]
theorem tk_drop (h : q0[j]? = some e0) {l1 : List Ea} (hq : q.map En.e = l1 ++ (q0.map En.e).drop j) : q.map En.e = (l1 ++ [e0.e]) ++ (q0.map En.e).drop (j + 1) := by
 rw [hq, drop_at (en_e h), List.append_assoc]; rfl
theorem tk_set {l1 : List Ea} (h : q0[j]? = some e0) (hq : q.map En.e = l1 ++ (q0.map En.e).drop j) (hl : l1.length = min j q0.length) : (q.set j y).map En.e = (l1 ++ [y.e]) ++ (q0.map En.e).drop (j + 1) := by
 have hj := (List.getElem?_eq_some_iff.1 h).1
 rw [Nat.min_eq_left (Nat.le_of_lt hj)] at hl
 rw [List.map_set, hq, drop_at (en_e h), List.set_append_right (h := by omega), hl, Nat.sub_self, List.append_assoc]; rfl
theorem set_names (hx : q[j]? = some x) (hy : y.nm = x.nm) (hn : q.map En.nm = q0.map En.nm) : (q.set j y).map En.nm = q0.map En.nm := by
 rw [List.map_set, hy, rows_same (by rw [List.getElem?_map, hx]; rfl), hn]
theorem set_all {P : En → Prop} (h : ∀ x ∈ q, P x) (hy : P y) : ∀ x ∈ q.set j y, P x := fun p hp => by
  rcases List.mem_or_eq_of_mem_set hp with h1 | rfl
  · exact h p h1
  · exact hy
end
theorem takeL_room {s now : Int} : ∀ {l : List Ea} {r : Int}, (takeL s now l r).2.2.1 ≤ r
  | [], r => Int.le_refl _
  | e :: l, r => by
    by_cases h : e.st = s
    · by_cases hr : r < (e.c.d.length : Int)
      · rw [takeL_full h hr]; exact Int.le_refl _
      · rw [takeL_fit h hr]
        have := takeL_room (s := s) (now := now) (l := l) (r := r - e.c.d.length)
        show (takeL s now l _).2.2.1 ≤ _
        omega
    · rw [takeL_ne h]; exact takeL_room
theorem takeL_outs {s now : Int} : ∀ {l : List Ea} {r : Int}, (takeL s now l r).2.1.length ≤ l.length
  | [], r => Nat.le_refl _
  | e :: l, r => by
    by_cases h : e.st = s
    · by_cases hr : r < (e.c.d.length : Int)
      · rw [takeL_full h hr]; exact Nat.zero_le _
      · rw [takeL_fit h hr]
        exact Nat.succ_le_succ takeL_outs
    · rw [takeL_ne h]
      exact Nat.le_trans takeL_outs (Nat.le_succ _)
theorem takeL_all {s now : Int} {P Q : Ea → Prop} (hpq : ∀ e, P e → Q e) (hf : ∀ e, P e → Q (e.fly now)) : ∀ {l : List Ea} {r : Int}, (∀ e ∈ l, P e) → ∀ e ∈ (takeL s now l r).1, Q e
  | [], r, _, e, h => by cases h
  | x :: l, r, hP, e, he => by
    have hx := hP x (List.mem_cons_self ..)
    have hl := fun z hz => hP z (List.mem_cons_of_mem _ hz)
    by_cases h : x.st = s
    · by_cases hr : r < (x.c.d.length : Int)
      · rw [takeL_full h hr] at he; exact hpq e (hP e he)
      · rw [takeL_fit h hr] at he
        rcases List.mem_cons.1 he with rfl | he
        · exact hf x hx
        · exact takeL_all hpq hf hl e he
    · rw [takeL_ne h] at he
      rcases List.mem_cons.1 he with rfl | he
      · exact hpq _ hx
      · exact takeL_all hpq hf hl e he
theorem octets_ev {H : AH} {R D : HL} {F : Nat} {lv : AV} {lc : List AV} {nx : Int} {q : List En} {sb : Nat} {ss : List Int} (hlv : Sq 1 lv lc (q.map En.pr).flatten) (hql : q.length ≤ 100000) (hok : ∀ x ∈ q, OctIn D x.dv x.e.c.d) (hsz : ∀ e ∈ q.map En.e, e.c.d.length ≤ 1000000) (hsl : ss.length ≤ 1000) (hH0 : Hs H ([(sb, some (.cells (ss.map fun z => AV.i IntKind.i64 z) true))] ++ ([(F, some (.cells ([lv, (.i .u32 nx)]) true))] ++ ((qseg lv lc) ++ ((q.flatMap En.seg) ++ (R)))))) : Ev tabA spA (.fn (.func 41) [] []) [.p (some (F, 0)), (.sl (some (sb, 0)) ss.length ss.length 0)] H (fun r H' => r = .i .i64 ((octs ss (q.map En.e) : Nat) : Int) ∧ Hs H' ([(sb, some (.cells (ss.map fun z => AV.i IntKind.i64 z) true))] ++ ([(F, some (.cells ([lv, (.i .u32 nx)]) true))] ++ ((qseg lv lc) ++ ((q.flatMap En.seg) ++ (R)))))) := by
 refine Ev_C (F := x41) rfl ?_
 refine C_seq  (C_region  (pv (.i .i64 0) rfl (O_nil  (C_seq  (C_region  (pv (pT F 0) rfl (pv (.sl (some (sb, 0)) ss.length ss.length 0) rfl ?_)))))))
 refine O_call (Ev.mono (in_ev (F := F) (sb := sb) (ss := ss) hH0) fun v1 H2 hq3 => ?_)
 obtain ⟨b4, b5, rfl, hH6⟩ := hq3
 have hH7 := ((((((hH6.top5).top5).top5).top5).top5).top5)
 have hH8 := ((((((hH7.top5).top5).top5).top5).top5).top5)
 refine O_call (Ev.mono (total_ev hlv hql hsl hok hsz hH8) fun v9 H10 hq11 => ?_)
 obtain ⟨rfl, hH12⟩ := hq11
 refine pv (.i .i64 ((((octs ss (q.map En.e)) : Nat)) : Int)) rfl (O_nil  (C_ret  ?_))
 have hH13 := ((hH12.sub0).sub0)
 have hH14 := ((((hH13.top3).top3).top3).top3)
 exact ⟨.inr rfl, _, resL_one (r_tmp (v := (.i .i64 ((((octs ss (q.map En.e)) : Nat)) : Int))) rfl), rfl, hH14⟩
theorem flying_raw {H : AH} {R D : HL} {F : Nat} {lv : AV} {lc : List AV} {nx : Int} {q : List En} (hlv : Sq 1 lv lc (q.map En.pr).flatten) (hql : q.length ≤ 100000) (hok : ∀ x ∈ q, OctIn D x.dv x.e.c.d) (hsz : ∀ e ∈ q.map En.e, e.c.d.length ≤ 1000000) (hH0 : Hs H ([(F, some (.cells ([lv, (.i .u32 nx)]) true))] ++ ((qseg lv lc) ++ ((q.flatMap En.seg) ++ (R))))) : Ev tabA spA (.fn (.func 19) [] []) [.p (some (F, 0))] H (fun r H' => r = .i .i64 ((octs [1] (q.map En.e) : Nat) : Int) ∧ Hs H' ([(F, some (.cells ([lv, (.i .u32 nx)]) true))] ++ ((qseg lv lc) ++ ((q.flatMap En.seg) ++ (R))))) := by
 refine Ev_C (F := x19) rfl ?_
 refine C_seq  (C_region  (pv (.i .i64 0) rfl (O_nil  (C_seq  (C_region  (pv (pT F 0) rfl ?_))))))
 refine O_bslice (c := [(.i .i64 1)]) rfl fun n1 H2 hN3 => ?_
 have hH4 := hH0.new hN3
 have hH5 := ((((hH4.top3).top3).top3).top3)
 have hH6 := ((((hH5.top3).top3).top3).top3)
 refine O_call (Ev.mono (octets_ev (ss := [1]) hlv hql hok hsz (by decide) hH6) fun v7 H8 hq9 => ?_)
 obtain ⟨rfl, hH10⟩ := hq9
 refine pv (.i .i64 ((((octs [1] (q.map En.e)) : Nat)) : Int)) rfl (O_nil  (C_ret  ?_))
 have hH11 := (hH10.sub0)
 have hH12 := (((hH11.top2).top2).top2)
 exact ⟨.inr rfl, _, resL_one (r_tmp (v := (.i .i64 ((((octs [1] (q.map En.e)) : Nat)) : Int))) rfl), rfl, hH12⟩
theorem left_raw {H : AH} {R D : HL} {F : Nat} {lv : AV} {lc : List AV} {nx : Int} {q : List En} (hlv : Sq 1 lv lc (q.map En.pr).flatten) (hql : q.length ≤ 100000) (hok : ∀ x ∈ q, OctIn D x.dv x.e.c.d) (hsz : ∀ e ∈ q.map En.e, e.c.d.length ≤ 1000000) (hH0 : Hs H ([(F, some (.cells ([lv, (.i .u32 nx)]) true))] ++ ((qseg lv lc) ++ ((q.flatMap En.seg) ++ (R))))) : Ev tabA spA (.fn (.func 20) [] []) [.p (some (F, 0))] H (fun r H' => r = .i .i64 ((octs [0, 2] (q.map En.e) : Nat) : Int) ∧ Hs H' ([(F, some (.cells ([lv, (.i .u32 nx)]) true))] ++ ((qseg lv lc) ++ ((q.flatMap En.seg) ++ (R))))) := by
 refine Ev_C (F := x20) rfl ?_
 refine C_seq  (C_region  (pv (.i .i64 0) rfl (O_nil  (C_seq  (C_region  (pv (pT F 0) rfl ?_))))))
 refine O_bslice (c := [(.i .i64 0), (.i .i64 2)]) rfl fun n1 H2 hN3 => ?_
 have hH4 := hH0.new hN3
 have hH5 := ((((hH4.top3).top3).top3).top3)
 have hH6 := ((((hH5.top3).top3).top3).top3)
 refine O_call (Ev.mono (octets_ev (ss := [0, 2]) hlv hql hok hsz (by decide) hH6) fun v7 H8 hq9 => ?_)
 obtain ⟨rfl, hH10⟩ := hq9
 refine pv (.i .i64 ((((octs [0, 2] (q.map En.e)) : Nat)) : Int)) rfl (O_nil  (C_ret  ?_))
 have hH11 := (hH10.sub0)
 have hH12 := (((hH11.top2).top2).top2)
 exact ⟨.inr rfl, _, resL_one (r_tmp (v := (.i .i64 ((((octs [0, 2] (q.map En.e)) : Nat)) : Int))) rfl), rfl, hH12⟩
set_option maxHeartbeats 2000000 in
theorem take_raw {H : AH} {R D : HL} {F : Nat} {lv : AV} {lc : List AV} {nx now room : Int} {q0 : List En} (hlv : Sq 1 lv lc (q0.map En.pr).flatten) (hql : q0.length ≤ 100000) (hok : ∀ x ∈ q0, OctIn D x.dv x.e.c.d) (hsz0 : ∀ e ∈ q0.map En.e, e.c.d.length ≤ 1000000) (hse0 : ∀ e ∈ q0.map En.e, 0 ≤ e.sent ∧ e.sent ≤ 1000000) (hrm0 : room ≤ 9223372036854775807) (hH0 : Hs H ([(F, some (.cells ([lv, (.i .u32 nx)]) true))] ++ ((qseg lv lc) ++ ((q0.flatMap En.seg) ++ (D ++ (R)))))) : Ev tabA spA (.fn (.func 14) [] []) [.p (some (F, 0)), .i .i64 now, .i .i64 room] H (fun r H' => ∃ (q : List En) (ov : AV) (oc : List AV) (rows : List (List AV)) (D' : HL), r = ov ∧ q.map En.nm = q0.map En.nm ∧ q.map En.e = (take2 now (q0.map En.e) room).1 ∧ Sq 12 ov oc rows.flatten ∧ CxsR D' rows ((take2 now (q0.map En.e) room).2.map Ea.ca) ∧ (∀ x ∈ q, OctIn D' x.dv x.e.c.d) ∧ (∀ H', Hs H' D' → Hs H' D) ∧ Hs H' (qseg ov oc ++ ([(F, some (.cells ([lv, (.i .u32 nx)]) true))] ++ ((qseg lv lc) ++ ((q.flatMap En.seg) ++ (D' ++ (R))))))) := by
  refine Ev_C (F := x14) rfl ?_
  refine C_seq  (C_region  ?_)
  refine O_box (z := [(.i .i64 now)]) rfl fun n1 H2 hN3 => ?_
  have hH4 := hH0.new hN3
  refine O_box (z := [(.i .i64 room)]) rfl fun n5 H6 hN7 => ?_
  have hH8 := hH4.new hN7
  refine O_alloc fun n9 H10 hN11 => ?_
  have hH12 := hH8.new hN11
  refine O_nil  (C_seq  (C_region  ?_))
  refine O_alloc fun n13 H14 hN15 => ?_
  have hH16 := hH12.new hN15
  refine O_nil  (C_seq  (C_seq  (C_region  ?_)))
  refine O_bslice (c := [(.i .i64 2), (.i .i64 0)]) rfl fun n17 H18 hN19 => ?_
  have hH20 := hH16.new hN19
  refine O_p (.i .i64 2) (r_len rfl) (pv (.i .i64 0) rfl (O_nil  (C_block  (C_loop  (C_seq  (C_region  (O_p (.b true) (r_bin rfl rfl rfl) (O_nil  (C_seq  ?_)))))))))
  refine C_cond (x := true) rfl (fun _ => ?_) (fun h => by cases h)
  refine C_skip  (C_seq  (C_block  (C_seq  (C_region  (O_p (pT n17 0) (by exact (r_isl' rfl rfl (by decide) (by decide) rfl)) (O_p (.i .i64 2) (r_ld rfl hH20.get0 rfl) (pv (.i .i64 2) rfl (O_nil  (C_seq  (C_region  (pv (pT F 0) rfl (pv (.i .i64 2) rfl ?_))))))))))))
  refine O_bslice (c := [(.i .i64 2)]) rfl fun n21 H22 hN23 => ?_
  have hH24 := hH20.new hN23
  refine O_call (Ev.mono (in_ev (F := F) (sb := n21) (ss := [2]) hH24) fun v25 H26 hq27 => ?_)
  obtain ⟨b28, b29, rfl, hH30⟩ := hq27
  refine O_nil  (C_block  ?_)
  have hH31 := hH30.addnil
  refine C_rangeFn (g := 59) (first := []) (cap := [.p (some (b28, 0)), .p (some (b29, 0))]) rfl fun Tx L HLL hTx hNL0 => ?_
  obtain ⟨LB, hLB, hNL⟩ := hNL0.loop
  have hH32 := hH31.new hNL
  have hH33 := ((((((((((((((hH32.top13).top2).top6).top7).top8).top9).top10).top7).top13).top13).top13).top13).top13).top13)
  refine Ev.mono (in1_ev (F := F) (sb := n21) (nx := nx) (ss := [2]) (q0 := q0) hlv hql (by decide) (fun j HH => ∃ (q : List En), ∃ (ov : AV), ∃ (oc : List AV), ∃ (rw1 : List (List AV)), ∃ (D1 : HL), (q.map En.nm = q0.map En.nm) ∧ (q.map En.e = (takeL 2 now ((q0.map En.e).take j) room).1 ++ (q0.map En.e).drop j) ∧ ((takeL 2 now ((q0.map En.e).take j) room).2.2.2 = false) ∧ (Sq 12 ov oc rw1.flatten) ∧ (CxsR D1 rw1 ([] ++ (takeL 2 now ((q0.map En.e).take j) room).2.1.map Ea.ca)) ∧ (∀ x ∈ q, OctIn D1 x.dv x.e.c.d) ∧ (∀ H', Hs H' D1 → Hs H' D) ∧ Hs HH ([(b28, some (.cells ([(.p (some (F, 0)))]) true))] ++ ([(b29, some (.cells ([(.sl (some (n21, 0)) [2].length [2].length 0)]) true))] ++ ([(n21, some (.cells ([2].map fun z => AV.i IntKind.i64 z) true))] ++ ([(F, some (.cells ([lv, (.i .u32 nx)]) true))] ++ ((qseg lv lc) ++ ((q.flatMap En.seg) ++ ([(L, some LB)] ++ ([(n1, some (.cells ([(.i .i64 now)]) true))] ++ ([(n5, some (.cells ([(.i .i64 (takeL 2 now ((q0.map En.e).take j) room).2.2.1)]) true))] ++ ([(n9, some (.cells ([(.sl none 0 0 0)]) true))] ++ ([(n13, some (.cells ([ov]) true))] ++ ([(n17, some (.cells ([(.i .i64 2), (.i .i64 0)]) true))] ++ ((qseg ov oc) ++ (D1 ++ (R)))))))))))))))) (fun HH => ∃ (LB2 : Blk), ∃ (q : List En), ∃ (ov : AV), ∃ (oc : List AV), ∃ (rw1 : List (List AV)), ∃ (D1 : HL), (∃ z1 z2 z3 z4, LB2 = .loop .done (some .ret) z1 z2 z3 z4) ∧ (q.map En.nm = q0.map En.nm) ∧ (q.map En.e = (takeL 2 now (q0.map En.e) room).1) ∧ ((takeL 2 now (q0.map En.e) room).2.2.2 = true) ∧ (Sq 12 ov oc rw1.flatten) ∧ (CxsR D1 rw1 ([] ++ (takeL 2 now (q0.map En.e) room).2.1.map Ea.ca)) ∧ (∀ x ∈ q, OctIn D1 x.dv x.e.c.d) ∧ (∀ H', Hs H' D1 → Hs H' D) ∧ Hs HH ([(F, some (.cells ([lv, (.i .u32 nx)]) true))] ++ ((qseg lv lc) ++ ((q.flatMap En.seg) ++ ([(L, some LB2)] ++ ([(n9, some (.cells ([ov]) true))] ++ ((qseg ov oc) ++ (D1 ++ (R))))))))) ?_ ?_ ?_ ?_ ?_) fun v2 HE hE => ?_
  · exact ⟨q0, (.sl none 0 0 0), [], [], D, rfl, by rw [List.take_zero]; rfl, rfl, Sq.nil, by rw [List.take_zero]; exact CxsR.nil, hok, fun _ h => h, hH33⟩
  · rintro j H1 ⟨q, ov, oc, rw1, D1, hq0, hq1, hq2, hq3, hq4, hq5, hq6, hh⟩
    exact ⟨q, _, hq0, (tk_same hq1 tk_len), hh⟩
  · rintro j H1 H2 hn hk2 hok ⟨q, ov, oc, rw1, D1, hq0, hq1, hq2, hq3, hq4, hq5, hq6, hh⟩
    exact ⟨q, ov, oc, rw1, D1, hq0, hq1, hq2, hq3, hq4, hq5, hq6, hh.keep hn hk2 hok⟩
  · rintro j H1 e0 h0j hst ⟨q, ov, oc, rw1, D1, hq0, hq1, hq2, hq3, hq4, hq5, hq6, hh⟩
    have hts := tk_skip (S := 2) (now := now) (RM := room) h0j (by simpa using hst) hq2
    refine ⟨q, ov, oc, rw1, D1, hq0, by rw [hts]; exact tk_drop h0j hq1, by rw [hts], hq3, by rw [hts]; exact hq4, hq5, hq6, by rw [hts]; exact hh⟩
  ·
    rintro j HH e0 h0j hst ⟨q, ov, oc, rw1, D1, hq0, hq1, hq2, hq3, hq4, hq5, hq6, hHb⟩
    have hjl : j < q0.length := (List.getElem?_eq_some_iff.1 h0j).1
    obtain ⟨x, hxj, hxn, hxe⟩ := en_same (q := q) hq0 ((tk_same hq1 tk_len) j (Nat.le_refl _)) h0j
    rw [← hxn]
    refine Ev_yield ((hHb.get6).trans (congrArg some hLB)) rfl ?_
    refine C.te ?_ (hTx.cons 22 _)
    have hst2 : e0.e.st = 2 := by simpa using hst
    have hxs := hse0 x.e (by rw [hxe]; exact List.mem_of_getElem? (en_e h0j))
    have hxz := hsz0 x.e (by rw [hxe]; exact List.mem_of_getElem? (en_e h0j))
    have hrl := takeL_room (s := 2) (now := now) (l := (q0.map En.e).take j) (r := room)
    have hol := takeL_outs (s := 2) (now := now) (l := (q0.map En.e).take j) (r := room)
    have hrwl : rw1.length ≤ 200000 := by have h9 := hq4.1; rw [List.length_append, List.length_map] at h9; rw [List.length_take, List.length_map] at hol; simp only [List.length_nil] at h9; have h7 := Nat.min_le_right j q0.length; omega
    have hH34 := (hHb.top5)
    have hH35 := En.out hxj hH34
    obtain ⟨da, dc, dg, de, dhg, dhc, dhm, dhb⟩ := (hq5 x (List.mem_of_getElem? hxj))
    rw [de] at hH35
    obtain ⟨rm, hrm⟩ : ∃ z, z = (takeL 2 now ((q0.map En.e).take j) room).2.2.1 := ⟨_, rfl⟩
    rw [← hrm] at hH35 hrl
    refine C_region  (pv (pT x.n 0) rfl (O_nil  ?_))
    refine ⟨rfl, _, _, _, _, _, (hH35.get7).trans (congrArg some hLB), fun H2 hWb => ?_⟩
    have hH36 := hH35.wr7 hWb
    refine C_block  (C_seq  (C_seq  ?_))
    by_cases hrf : rm < (x.e.c.d.length : Int)
    ·
      refine C_draw fun b37 H38 hbase39 hA40 => ?_
      have hH41 := hH36.keep (by have := hA40.1; omega) (fun q _ => hA40.2 q) ((hH36.old).aside hA40).ok
      refine D_l (v := (pT x.n 0)) rfl rfl rfl (r_mv rfl) (D_r (v := (.i .i64 rm)) rfl rfl rfl (r_ld rfl hH41.get9 rfl) ?_)
      refine D_call (Ev.mono (size_ev hH41) fun v42 H43 hq44 => ?_)
      obtain ⟨rfl, hH45⟩ := hq44
      refine And.intro (And.intro (Or.inr (look_run rfl rfl (r_ld rfl hH45.get9 rfl))) True.intro) (D_l (v := (.b true)) rfl rfl rfl (by exact (by rw [r_gtr rfl rfl, decide_eq_true hrf])) (D_nil  ?_))
      refine C_cond (x := true) rfl (fun _ => ?_) (fun h => by cases h)
      refine C_seq  (C_region  ?_)
      obtain ⟨qa46, ql47, qc48, qg49, rfl⟩ := hq3.isSl
      refine O_p (.sl qa46 ql47 qc48 qg49) (r_ld rfl hH45.get11 rfl) ?_
      refine O_store (vs := [(.sl qa46 ql47 qc48 qg49)]) (c' := [(.sl qa46 ql47 qc48 qg49)]) rfl (by rfl) hH45.get10 rfl (List.cons_ne_nil _ _) (Nat.le_of_ble_eq_true rfl) rfl fun H50 hW51 => ?_
      have hH52 := hH45.wr10 hW51
      refine O_nil  (C_ret  (nx_ret  (bk_ret  ?_)))
      refine ⟨_, _, _, _, _, (hH52.get7), fun H4 hWr => ?_⟩
      have hH53 := hH52.wr7 hWr
      have hH54 := ((hH53.top1).top1)
      rw [← de] at hH54
      have hH55 := En.back0 hxj hH54
      have hH56 := (((((((hH55.sub1).sub1).sub1).sub4).sub4).sub5).sub5)
      have hH57 := (((((((hH56.top6).top6).top6).top6).top4).top6).top6)
      have hts := tk_stop (S := 2) (now := now) (RM := room) h0j hst2 hq2 (by rw [← hrm, ← hxe]; exact hrf)
      exact ⟨_, rfl, (fun h => by cases h), fun _ => ⟨_, q, (.sl qa46 ql47 qc48 qg49), oc, rw1, D1, ⟨_, _, _, _, rfl⟩, hq0, by rw [hts]; exact hq1, by rw [hts], hq3, by rw [hts]; exact hq4, hq5, hq6, hH57⟩⟩
    ·
      refine C_draw fun b58 H59 hbase60 hA61 => ?_
      have hH62 := hH36.keep (by have := hA61.1; omega) (fun q _ => hA61.2 q) ((hH36.old).aside hA61).ok
      refine D_l (v := (pT x.n 0)) rfl rfl rfl (r_mv rfl) (D_r (v := (.i .i64 rm)) rfl rfl rfl (r_ld rfl hH62.get9 rfl) ?_)
      refine D_call (Ev.mono (size_ev hH62) fun v63 H64 hq65 => ?_)
      obtain ⟨rfl, hH66⟩ := hq65
      refine And.intro (And.intro (Or.inr (look_run rfl rfl (r_ld rfl hH66.get9 rfl))) True.intro) (D_l (v := (.b false)) rfl rfl rfl (by exact (by rw [r_gtr rfl rfl, decide_eq_false hrf])) (D_nil  ?_))
      refine C_cond (x := false) rfl (fun h => by cases h) (fun _ => ?_)
      refine C_skip  (C_seq  ?_)
      refine C_draw fun b67 H68 hbase69 hA70 => ?_
      have hH71 := hH66.keep (by have := hA70.1; omega) (fun q _ => hA70.2 q) ((hH66.old).aside hA70).ok
      refine D_l (v := (pT x.n 0)) rfl rfl rfl (r_mv rfl) (D_r (v := (.i .i64 rm)) rfl rfl rfl (r_ld rfl hH71.get9 rfl) ?_)
      refine D_call (Ev.mono (size_ev hH71) fun v72 H73 hq74 => ?_)
      obtain ⟨rfl, hH75⟩ := hq74
      refine And.intro (And.intro (Or.inr (look_run rfl rfl (r_ld rfl hH75.get9 rfl))) True.intro) (D_l (v := (.i .i64 (rm - (((x.e.c.d.length : Nat)) : Int)))) rfl rfl rfl (by exact (r_subi rfl rfl (wrap_i64 (by omega) (by omega)))) ?_)
      refine D_store (vs := [(.i .i64 (rm - (((x.e.c.d.length : Nat)) : Int)))]) (c' := [(.i .i64 (rm - (((x.e.c.d.length : Nat)) : Int)))]) rfl (by rfl) hH75.get9 rfl (List.cons_ne_nil _ _) (Nat.le_of_ble_eq_true rfl) rfl fun H76 hW77 => ?_
      have hH78 := hH75.wr9 hW77
      refine And.intro (And.intro (Or.inl rfl) True.intro) (D_nil  (C_seq  ?_))
      refine C_draw fun b79 H80 hbase81 hA82 => ?_
      have hH83 := hH78.keep (by have := hA82.1; omega) (fun q _ => hA82.2 q) ((hH78.old).aside hA82).ok
      refine D_l (v := (pT x.n 0)) rfl rfl rfl (r_mv rfl) (D_l (v := (pT x.n 0)) rfl rfl rfl (r_mv rfl) (D_l (v := (pT x.n 0)) rfl rfl rfl (r_mv rfl) (D_l (v := (pT x.n 0)) rfl rfl rfl (r_nilc rfl) (D_l (v := (pT x.n 13)) rfl rfl rfl (r_fadd' rfl rfl) (D_r (v := (.i .i64 now)) rfl rfl rfl (r_ld rfl hH83.get8 rfl) ?_)))))
      refine D_store (vs := [(.i .i64 1)]) (c' := [(.i .u8 x.e.c.k), (.i .u8 x.e.c.f), (.i .u32 x.e.a), (.i .u32 x.e.c.b), (.i .u16 x.e.c.o), (.i .u16 x.e.c.i), (.i .u32 x.e.c.p), x.e.c.x1, x.e.c.x2, x.e.c.x3, x.e.c.x4, (.sl da x.e.c.d.length dc dg), (.p (some (x.m, 0))), (.i .i64 1), (.i .i64 x.e.sent), (.i .i64 x.e.tm), (.i .i64 x.e.mi)]) rfl (by rfl) hH83.get0 rfl (List.cons_ne_nil _ _) (Nat.le_of_ble_eq_true rfl) rfl fun H84 hW85 => ?_
      have hH86 := hH83.wr0 hW85
      refine And.intro (And.intro (Or.inr (look_run rfl rfl (r_ld rfl hH86.get8 rfl))) True.intro) (D_l (v := (pT x.n 0)) rfl rfl rfl (r_nilc rfl) (D_l (v := (pT x.n 15)) rfl rfl rfl (r_fadd' rfl rfl) ?_))
      refine D_store (vs := [(.i .i64 now)]) (c' := [(.i .u8 x.e.c.k), (.i .u8 x.e.c.f), (.i .u32 x.e.a), (.i .u32 x.e.c.b), (.i .u16 x.e.c.o), (.i .u16 x.e.c.i), (.i .u32 x.e.c.p), x.e.c.x1, x.e.c.x2, x.e.c.x3, x.e.c.x4, (.sl da x.e.c.d.length dc dg), (.p (some (x.m, 0))), (.i .i64 1), (.i .i64 x.e.sent), (.i .i64 now), (.i .i64 x.e.mi)]) rfl (by rfl) hH86.get0 rfl (List.cons_ne_nil _ _) (Nat.le_of_ble_eq_true rfl) rfl fun H87 hW88 => ?_
      have hH89 := hH86.wr0 hW88
      refine And.intro (And.intro (Or.inl rfl) True.intro) (D_l (v := (pT x.n 0)) rfl rfl rfl (r_nilc rfl) (D_l (v := (pT x.n 16)) rfl rfl rfl (r_fadd' rfl rfl) ?_))
      refine D_store (vs := [(.i .i64 0)]) (c' := [(.i .u8 x.e.c.k), (.i .u8 x.e.c.f), (.i .u32 x.e.a), (.i .u32 x.e.c.b), (.i .u16 x.e.c.o), (.i .u16 x.e.c.i), (.i .u32 x.e.c.p), x.e.c.x1, x.e.c.x2, x.e.c.x3, x.e.c.x4, (.sl da x.e.c.d.length dc dg), (.p (some (x.m, 0))), (.i .i64 1), (.i .i64 x.e.sent), (.i .i64 now), (.i .i64 0)]) rfl (by rfl) hH89.get0 rfl (List.cons_ne_nil _ _) (Nat.le_of_ble_eq_true rfl) rfl fun H90 hW91 => ?_
      have hH92 := hH89.wr0 hW91
      refine And.intro True.intro (D_nil  (C_seq  (C_region  (pv (pT x.n 0) rfl (O_p (pT x.n 0) (r_nilc rfl) (pf (pT x.n 14) rfl rfl (O_p (.i .i64 x.e.sent) (r_ld rfl hH92.get0 rfl) (O_p (.i .i64 (x.e.sent + 1)) (by exact (r_addi rfl rfl (wrap_i64 (by omega) (by omega)))) (O_p (pT x.n 0) (r_nilc rfl) (pf (pT x.n 14) rfl rfl ?_))))))))))
      refine O_store (vs := [(.i .i64 (x.e.sent + 1))]) (c' := [(.i .u8 x.e.c.k), (.i .u8 x.e.c.f), (.i .u32 x.e.a), (.i .u32 x.e.c.b), (.i .u16 x.e.c.o), (.i .u16 x.e.c.i), (.i .u32 x.e.c.p), x.e.c.x1, x.e.c.x2, x.e.c.x3, x.e.c.x4, (.sl da x.e.c.d.length dc dg), (.p (some (x.m, 0))), (.i .i64 1), (.i .i64 (x.e.sent + 1)), (.i .i64 now), (.i .i64 0)]) rfl (by rfl) hH92.get0 rfl (List.cons_ne_nil _ _) (Nat.le_of_ble_eq_true rfl) rfl fun H93 hW94 => ?_
      have hH95 := hH92.wr0 hW94
      refine O_nil  (C_seq  (C_region  (pv (pT x.n 0) rfl (O_p (pT x.n 0) (r_nilc rfl) (pf (pT x.n 0) rfl rfl (O_p (.agg [(.i .u8 x.e.c.k), (.i .u8 x.e.c.f), (.i .u32 x.e.a), (.i .u32 x.e.c.b), (.i .u16 x.e.c.o), (.i .u16 x.e.c.i), (.i .u32 x.e.c.p), x.e.c.x1, x.e.c.x2, x.e.c.x3, x.e.c.x4, (.sl da x.e.c.d.length dc dg)]) (r_ldA rfl hH95.get0 rfl) ?_))))))
      refine O_alloc fun n96 H97 hN98 => ?_
      have hH99 := hH95.new hN98
      refine O_store (vs := [(.i .u8 x.e.c.k), (.i .u8 x.e.c.f), (.i .u32 x.e.a), (.i .u32 x.e.c.b), (.i .u16 x.e.c.o), (.i .u16 x.e.c.i), (.i .u32 x.e.c.p), x.e.c.x1, x.e.c.x2, x.e.c.x3, x.e.c.x4, (.sl da x.e.c.d.length dc dg)]) (c' := [(.i .u8 x.e.c.k), (.i .u8 x.e.c.f), (.i .u32 x.e.a), (.i .u32 x.e.c.b), (.i .u16 x.e.c.o), (.i .u16 x.e.c.i), (.i .u32 x.e.c.p), x.e.c.x1, x.e.c.x2, x.e.c.x3, x.e.c.x4, (.sl da x.e.c.d.length dc dg)]) rfl (by rfl) hH99.get0 rfl (List.cons_ne_nil _ _) (Nat.le_of_ble_eq_true rfl) rfl fun H100 hW101 => ?_
      have hH102 := hH99.wr0 hW101
      refine O_nil  (C_seq  (C_region  (pf (pT n96 11) rfl rfl (O_p (.sl da x.e.c.d.length dc dg) (r_ld rfl hH102.get0 rfl) ?_))))
      refine O_call (Ev.mono (clone_ev (tab := tabA) (sp := spA) rfl hH102.ok dhg (dhb _ hH102.top15.fst) (by first | omega | (simp only [List.length_take, List.length_drop, List.length_append, List.length_cons, List.length_nil, beN_len] <;> omega)) (by first | omega | (simp only [List.length_take, List.length_drop, List.length_append, List.length_cons, List.length_nil, beN_len] <;> omega)) (by first | omega | (simp only [List.length_replicate]; omega))) fun v103 H104 hq105 => ?_)
      obtain ⟨hM106, hK107⟩ := hq105
      obtain ⟨qa108, qg109, rfl, hqg110, _⟩ := hM106.own.bs
      have hH112 := Hs.ofMine hH102 hM106 hK107
      have hSq111 := Sq.ofMine hH102 hM106 hK107
      have hH113 := (hH112.top16)
      have hH114 := Hs.unassoc hH113
      refine pf (pT n96 11) rfl rfl ?_
      refine O_store (vs := [(.sl qa108 (x.e.c.d).length (x.e.c.d).length qg109)]) (c' := [(.i .u8 x.e.c.k), (.i .u8 x.e.c.f), (.i .u32 x.e.a), (.i .u32 x.e.c.b), (.i .u16 x.e.c.o), (.i .u16 x.e.c.i), (.i .u32 x.e.c.p), x.e.c.x1, x.e.c.x2, x.e.c.x3, x.e.c.x4, (.sl qa108 (x.e.c.d).length (x.e.c.d).length qg109)]) rfl (by rfl) hH114.get1 rfl (List.cons_ne_nil _ _) (Nat.le_of_ble_eq_true rfl) rfl fun H115 hW116 => ?_
      have hH117 := hH114.wr1 hW116
      refine O_nil  (C_region  (O_p ov (r_ld rfl hH117.get13 rfl) (O_p (.agg [(.i .u8 x.e.c.k), (.i .u8 x.e.c.f), (.i .u32 x.e.a), (.i .u32 x.e.c.b), (.i .u16 x.e.c.o), (.i .u16 x.e.c.i), (.i .u32 x.e.c.p), x.e.c.x1, x.e.c.x2, x.e.c.x3, x.e.c.x4, (.sl qa108 (x.e.c.d).length (x.e.c.d).length qg109)]) (r_ldA rfl hH117.get1 rfl) ?_)))
      refine O_bslice (c := [(.i .u8 x.e.c.k), (.i .u8 x.e.c.f), (.i .u32 x.e.a), (.i .u32 x.e.c.b), (.i .u16 x.e.c.o), (.i .u16 x.e.c.i), (.i .u32 x.e.c.p), x.e.c.x1, x.e.c.x2, x.e.c.x3, x.e.c.x4, (.sl qa108 (x.e.c.d).length (x.e.c.d).length qg109)]) rfl fun n118 H119 hN120 => ?_
      have hH121 := hH117.new hN120
      refine O_qh (by exact r_appq (n := rw1.length) (k := 1) (new := [(.i .u8 x.e.c.k), (.i .u8 x.e.c.f), (.i .u32 x.e.a), (.i .u32 x.e.c.b), (.i .u16 x.e.c.o), (.i .u16 x.e.c.i), (.i .u32 x.e.c.p), x.e.c.x1, x.e.c.x2, x.e.c.x3, x.e.c.x4, (.sl qa108 (x.e.c.d).length (x.e.c.d).length qg109)]) hH121.top16 hq3 rfl rfl rfl (src_blk hH121.get0 (by rfl)) rfl (by decide) (by decide) (flat_len hq4.lens) (by first | omega | (simp only [List.length_take, List.length_drop, List.length_append, List.length_cons, List.length_nil, beN_len] <;> omega))) fun o122 H123 hA125 => ?_
      obtain ⟨c124, hA125, hH126⟩ := hA125
      obtain ⟨qa127, ql128, qc129, qg130, rfl⟩ := hA125.isSl
      refine O_store (vs := [(.sl qa127 ql128 qc129 qg130)]) (c' := [(.sl qa127 ql128 qc129 qg130)]) rfl (by rfl) hH126.get15 rfl (List.cons_ne_nil _ _) (Nat.le_of_ble_eq_true rfl) rfl fun H131 hW132 => ?_
      have hH133 := hH126.wr15 hW132
      refine O_nil  ?_
      refine ⟨_, _, _, _, _, (hH133.get11), fun H4 hWr => ?_⟩
      have hH134 := Hs.cong11 (B := [(L, some LB)]) (hH133.wr11 hWr) (by rw [hLB]; rfl)
      have hH135 := ((hH134.top5).top5)
      rw [← de] at hH135
      have hH136 := En.back (y := (⟨x.e.fly now, x.n, x.m, x.dv⟩ : En)) hxj hH135
      have hH137 := ((hH136.sub2).sub3)
      have hH138 := ((((((((((((((hH137.top2).top2).top13).top13).top13).top13).top13).top13).top8).top13).top13).top13).top13).top13)
      have hts := tk_fly (S := 2) (now := now) (RM := room) h0j hst2 hq2 (by rw [← hrm, ← hxe]; exact hrf)
      rw [← hxe] at hts
      exact ⟨_, rfl, fun _ => ⟨q.set j (⟨x.e.fly now, x.n, x.m, x.dv⟩ : En), (.sl qa127 ql128 qc129 qg130), c124, rw1 ++ [cxRow x.e.c x.e.a (.sl qa108 (x.e.c.d).length (x.e.c.d).length qg109)], (D1 ++ (qseg (.sl qa108 (x.e.c.d).length (x.e.c.d).length qg109) (bcells x.e.c.d))), set_names hxj rfl hq0, by rw [hts]; exact tk_set h0j hq1 tk_len, by rw [hts], by rw [← flat_snoc]; exact hA125, by rw [hts, List.map_append, ← List.append_assoc]; exact (hq4.mono fun _ hh => hh.fst).snoc (x := (x.e.c, x.e.a)) ⟨_, _, _, rfl, hqg110, Nat.le_refl _, by omega, fun _ hh => Sq.bs (R := []) hSq111 (by rw [List.append_nil]; exact hh.sub)⟩, set_all (fun z hz => (hq5 z hz).mono fun _ hh => hh.fst) ((hq5 x (List.mem_of_getElem? hxj)).mono fun _ hh => hh.fst), fun H2 hh => hq6 H2 hh.fst, by rw [hts, ← hrm]; exact hH138⟩, fun h => by cases h⟩
  rcases hE with hE | hE
  ·
    obtain ⟨q, ov, oc, rw1, D1, hq0, hq1, hq2, hq3, hq4, hq5, hq6, hHE⟩ := hE
    refine ⟨.ready, none, _, _, _, _, (hHE.get6).trans (congrArg some hLB), by decide, fun HD hD => ?_⟩
    have hH139 := hHE.drp6 hD
    have hta : (q0.map En.e).take q0.length = (q0.map En.e) := List.take_of_length_le (by rw [List.length_map]; exact Nat.le_refl _)
    have htd : (q0.map En.e).drop q0.length = [] := List.drop_eq_nil_of_le (by rw [List.length_map]; exact Nat.le_refl _)
    rw [htd, List.append_nil] at hq1
    rw [hta] at hq1 hq2 hq4 hH139
    have hn0 := hq0
    have he0 := hq1
    have hf0 := hq2
    have hs0 := hq3
    have hc0 := hq4
    have ho0k := hq5
    have hm0 := hq6
    have hrl0 := takeL_room (s := 2) (now := now) (l := q0.map En.e) (r := room)
    have hse1 : ∀ e ∈ q.map En.e, 0 ≤ e.sent ∧ e.sent ≤ 1000001 := by rw [he0]; exact takeL_all (P := fun e => 0 ≤ e.sent ∧ e.sent ≤ 1000000) (fun e h => ⟨h.1, by omega⟩) (fun e h => ⟨by show 0 ≤ e.sent + 1; omega, by show e.sent + 1 ≤ _; omega⟩) hse0
    have hsz1 : ∀ e ∈ q.map En.e, e.c.d.length ≤ 1000000 := by rw [he0]; exact takeL_all (fun e h => h) (fun e h => h) hsz0
    have hql1 : q.length ≤ 100000 := by have h9 := congrArg List.length hn0; rw [List.length_map, List.length_map] at h9; omega
    have hlv1 : Sq 1 lv lc (q.map En.pr).flatten := by rw [pr_map hn0]; exact hlv
    refine C_region  (O_p (.i .i64 1) (r_bin rfl rfl rfl) (pv (.i .i64 1) rfl (O_nil  (C_loop  (C_seq  (C_region  (O_p (.b true) (r_bin rfl rfl rfl) (O_nil  (C_seq  ?_)))))))))
    refine C_cond (x := true) rfl (fun _ => ?_) (fun h => by cases h)
    refine C_skip  (C_seq  (C_block  (C_seq  (C_region  (O_p (pT n17 1) (by exact (r_isl' rfl rfl (by decide) (by decide) rfl)) (O_p (.i .i64 0) (r_ld rfl hH139.get10 rfl) (pv (.i .i64 0) rfl (O_nil  (C_seq  (C_region  (pv (pT F 0) rfl (pv (.i .i64 0) rfl ?_))))))))))))
    refine O_bslice (c := [(.i .i64 0)]) rfl fun n140 H141 hN142 => ?_
    have hH143 := hH139.new hN142
    refine O_call (Ev.mono (in_ev (F := F) (sb := n140) (ss := [0]) hH143) fun v144 H145 hq146 => ?_)
    obtain ⟨b147, b148, rfl, hH149⟩ := hq146
    refine O_nil  (C_block  ?_)
    refine C_rangeFn (g := 59) (first := []) (cap := [.p (some (b147, 0)), .p (some (b148, 0))]) rfl fun Tx L HLL hTx hNL0 => ?_
    obtain ⟨LB, hLB, hNL⟩ := hNL0.loop
    have hH150 := hH149.new hNL
    have hH151 := (((hH150.sub4).sub4).sub4)
    have hH152 := ((((((((((((((hH151.top13).top13).top13).top13).top13).top13).top13).top7).top13).top13).top13).top13).top13).top13)
    refine Ev.mono (in1_ev (F := F) (sb := n140) (nx := nx) (ss := [0]) (q0 := q) hlv1 hql1 (by decide) (fun j HH => ∃ (q2 : List En), ∃ (ow : AV), ∃ (od : List AV), ∃ (rw2 : List (List AV)), ∃ (D2 : HL), (q2.map En.nm = q.map En.nm) ∧ (q2.map En.e = (takeL 0 now ((q.map En.e).take j) (takeL 2 now (q0.map En.e) room).2.2.1).1 ++ (q.map En.e).drop j) ∧ ((takeL 0 now ((q.map En.e).take j) (takeL 2 now (q0.map En.e) room).2.2.1).2.2.2 = false) ∧ (Sq 12 ow od rw2.flatten) ∧ (CxsR D2 rw2 (((takeL 2 now (q0.map En.e) room).2.1.map Ea.ca) ++ (takeL 0 now ((q.map En.e).take j) (takeL 2 now (q0.map En.e) room).2.2.1).2.1.map Ea.ca)) ∧ (∀ x ∈ q2, OctIn D2 x.dv x.e.c.d) ∧ (∀ H', Hs H' D2 → Hs H' D1) ∧ Hs HH ([(b147, some (.cells ([(.p (some (F, 0)))]) true))] ++ ([(b148, some (.cells ([(.sl (some (n140, 0)) [0].length [0].length 0)]) true))] ++ ([(n140, some (.cells ([0].map fun z => AV.i IntKind.i64 z) true))] ++ ([(F, some (.cells ([lv, (.i .u32 nx)]) true))] ++ ((qseg lv lc) ++ ((q2.flatMap En.seg) ++ ([(L, some LB)] ++ ([(n1, some (.cells ([(.i .i64 now)]) true))] ++ ([(n5, some (.cells ([(.i .i64 (takeL 0 now ((q.map En.e).take j) (takeL 2 now (q0.map En.e) room).2.2.1).2.2.1)]) true))] ++ ([(n9, some (.cells ([(.sl none 0 0 0)]) true))] ++ ([(n13, some (.cells ([ow]) true))] ++ ([(n17, some (.cells ([(.i .i64 2), (.i .i64 0)]) true))] ++ ((qseg ow od) ++ (D2 ++ (R)))))))))))))))) (fun HH => ∃ (LB2 : Blk), ∃ (q2 : List En), ∃ (ow : AV), ∃ (od : List AV), ∃ (rw2 : List (List AV)), ∃ (D2 : HL), (∃ z1 z2 z3 z4, LB2 = .loop .done (some .ret) z1 z2 z3 z4) ∧ (q2.map En.nm = q.map En.nm) ∧ (q2.map En.e = (takeL 0 now (q.map En.e) (takeL 2 now (q0.map En.e) room).2.2.1).1) ∧ ((takeL 0 now (q.map En.e) (takeL 2 now (q0.map En.e) room).2.2.1).2.2.2 = true) ∧ (Sq 12 ow od rw2.flatten) ∧ (CxsR D2 rw2 (((takeL 2 now (q0.map En.e) room).2.1.map Ea.ca) ++ (takeL 0 now (q.map En.e) (takeL 2 now (q0.map En.e) room).2.2.1).2.1.map Ea.ca)) ∧ (∀ x ∈ q2, OctIn D2 x.dv x.e.c.d) ∧ (∀ H', Hs H' D2 → Hs H' D1) ∧ Hs HH ([(F, some (.cells ([lv, (.i .u32 nx)]) true))] ++ ((qseg lv lc) ++ ((q2.flatMap En.seg) ++ ([(L, some LB2)] ++ ([(n9, some (.cells ([ow]) true))] ++ ((qseg ow od) ++ (D2 ++ (R))))))))) ?_ ?_ ?_ ?_ ?_) fun v2 HE hE => ?_
    · exact ⟨q, ov, oc, rw1, D1, rfl, by rw [List.take_zero]; rfl, rfl, hs0, by rw [List.take_zero]; show CxsR D1 rw1 (_ ++ []); rw [List.append_nil]; exact hc0, ho0k, fun _ h => h, hH152⟩
    · rintro j H1 ⟨q2, ow, od, rw2, D2, hq0, hq1, hq2, hq3, hq4, hq5, hq6, hh⟩
      exact ⟨q2, _, hq0, (tk_same hq1 tk_len), hh⟩
    · rintro j H1 H2 hn hk2 hok ⟨q2, ow, od, rw2, D2, hq0, hq1, hq2, hq3, hq4, hq5, hq6, hh⟩
      exact ⟨q2, ow, od, rw2, D2, hq0, hq1, hq2, hq3, hq4, hq5, hq6, hh.keep hn hk2 hok⟩
    · rintro j H1 e0 h0j hst ⟨q2, ow, od, rw2, D2, hq0, hq1, hq2, hq3, hq4, hq5, hq6, hh⟩
      have hts := tk_skip (S := 0) (now := now) (RM := (takeL 2 now (q0.map En.e) room).2.2.1) h0j (by simpa using hst) hq2
      refine ⟨q2, ow, od, rw2, D2, hq0, by rw [hts]; exact tk_drop h0j hq1, by rw [hts], hq3, by rw [hts]; exact hq4, hq5, hq6, by rw [hts]; exact hh⟩
    ·
      rintro j HH e0 h0j hst ⟨q2, ow, od, rw2, D2, hq0, hq1, hq2, hq3, hq4, hq5, hq6, hHb⟩
      have hjl : j < q.length := (List.getElem?_eq_some_iff.1 h0j).1
      obtain ⟨x, hxj, hxn, hxe⟩ := en_same (q := q2) hq0 ((tk_same hq1 tk_len) j (Nat.le_refl _)) h0j
      rw [← hxn]
      refine Ev_yield ((hHb.get6).trans (congrArg some hLB)) rfl ?_
      refine C.te ?_ (hTx.cons 22 _)
      have hst2 : e0.e.st = 0 := by simpa using hst
      have hxs := hse1 x.e (by rw [hxe]; exact List.mem_of_getElem? (en_e h0j))
      have hxz := hsz1 x.e (by rw [hxe]; exact List.mem_of_getElem? (en_e h0j))
      have hrl := takeL_room (s := 0) (now := now) (l := (q.map En.e).take j) (r := (takeL 2 now (q0.map En.e) room).2.2.1)
      have hol := takeL_outs (s := 0) (now := now) (l := (q.map En.e).take j) (r := (takeL 2 now (q0.map En.e) room).2.2.1)
      have hrwl : rw2.length ≤ 200000 := by have h9 := hq4.1; rw [List.length_append, List.length_map] at h9; rw [List.length_take, List.length_map] at hol; rw [List.length_map] at h9; have h8 := takeL_outs (s := 2) (now := now) (l := q0.map En.e) (r := room); rw [List.length_map] at h8; have h7 := Nat.min_le_right j q.length; omega
      have hH153 := (hHb.top5)
      have hH154 := En.out hxj hH153
      obtain ⟨da, dc, dg, de, dhg, dhc, dhm, dhb⟩ := (hq5 x (List.mem_of_getElem? hxj))
      rw [de] at hH154
      obtain ⟨rm, hrm⟩ : ∃ z, z = (takeL 0 now ((q.map En.e).take j) (takeL 2 now (q0.map En.e) room).2.2.1).2.2.1 := ⟨_, rfl⟩
      rw [← hrm] at hH154 hrl
      refine C_region  (pv (pT x.n 0) rfl (O_nil  ?_))
      refine ⟨rfl, _, _, _, _, _, (hH154.get7).trans (congrArg some hLB), fun H2 hWb => ?_⟩
      have hH155 := hH154.wr7 hWb
      refine C_block  (C_seq  (C_seq  ?_))
      by_cases hrf : rm < (x.e.c.d.length : Int)
      ·
        refine C_draw fun b156 H157 hbase158 hA159 => ?_
        have hH160 := hH155.keep (by have := hA159.1; omega) (fun q _ => hA159.2 q) ((hH155.old).aside hA159).ok
        refine D_l (v := (pT x.n 0)) rfl rfl rfl (r_mv rfl) (D_r (v := (.i .i64 rm)) rfl rfl rfl (r_ld rfl hH160.get9 rfl) ?_)
        refine D_call (Ev.mono (size_ev hH160) fun v161 H162 hq163 => ?_)
        obtain ⟨rfl, hH164⟩ := hq163
        refine And.intro (And.intro (Or.inr (look_run rfl rfl (r_ld rfl hH164.get9 rfl))) True.intro) (D_l (v := (.b true)) rfl rfl rfl (by exact (by rw [r_gtr rfl rfl, decide_eq_true hrf])) (D_nil  ?_))
        refine C_cond (x := true) rfl (fun _ => ?_) (fun h => by cases h)
        refine C_seq  (C_region  ?_)
        obtain ⟨qa165, ql166, qc167, qg168, rfl⟩ := hq3.isSl
        refine O_p (.sl qa165 ql166 qc167 qg168) (r_ld rfl hH164.get11 rfl) ?_
        refine O_store (vs := [(.sl qa165 ql166 qc167 qg168)]) (c' := [(.sl qa165 ql166 qc167 qg168)]) rfl (by rfl) hH164.get10 rfl (List.cons_ne_nil _ _) (Nat.le_of_ble_eq_true rfl) rfl fun H169 hW170 => ?_
        have hH171 := hH164.wr10 hW170
        refine O_nil  (C_ret  (nx_ret  (bk_ret  ?_)))
        refine ⟨_, _, _, _, _, (hH171.get7), fun H4 hWr => ?_⟩
        have hH172 := hH171.wr7 hWr
        have hH173 := ((hH172.top1).top1)
        rw [← de] at hH173
        have hH174 := En.back0 hxj hH173
        have hH175 := (((((((hH174.sub1).sub1).sub1).sub4).sub4).sub5).sub5)
        have hH176 := (((((((hH175.top6).top6).top6).top6).top4).top6).top6)
        have hts := tk_stop (S := 0) (now := now) (RM := (takeL 2 now (q0.map En.e) room).2.2.1) h0j hst2 hq2 (by rw [← hrm, ← hxe]; exact hrf)
        exact ⟨_, rfl, (fun h => by cases h), fun _ => ⟨_, q2, (.sl qa165 ql166 qc167 qg168), od, rw2, D2, ⟨_, _, _, _, rfl⟩, hq0, by rw [hts]; exact hq1, by rw [hts], hq3, by rw [hts]; exact hq4, hq5, hq6, hH176⟩⟩
      ·
        refine C_draw fun b177 H178 hbase179 hA180 => ?_
        have hH181 := hH155.keep (by have := hA180.1; omega) (fun q _ => hA180.2 q) ((hH155.old).aside hA180).ok
        refine D_l (v := (pT x.n 0)) rfl rfl rfl (r_mv rfl) (D_r (v := (.i .i64 rm)) rfl rfl rfl (r_ld rfl hH181.get9 rfl) ?_)
        refine D_call (Ev.mono (size_ev hH181) fun v182 H183 hq184 => ?_)
        obtain ⟨rfl, hH185⟩ := hq184
        refine And.intro (And.intro (Or.inr (look_run rfl rfl (r_ld rfl hH185.get9 rfl))) True.intro) (D_l (v := (.b false)) rfl rfl rfl (by exact (by rw [r_gtr rfl rfl, decide_eq_false hrf])) (D_nil  ?_))
        refine C_cond (x := false) rfl (fun h => by cases h) (fun _ => ?_)
        refine C_skip  (C_seq  ?_)
        refine C_draw fun b186 H187 hbase188 hA189 => ?_
        have hH190 := hH185.keep (by have := hA189.1; omega) (fun q _ => hA189.2 q) ((hH185.old).aside hA189).ok
        refine D_l (v := (pT x.n 0)) rfl rfl rfl (r_mv rfl) (D_r (v := (.i .i64 rm)) rfl rfl rfl (r_ld rfl hH190.get9 rfl) ?_)
        refine D_call (Ev.mono (size_ev hH190) fun v191 H192 hq193 => ?_)
        obtain ⟨rfl, hH194⟩ := hq193
        refine And.intro (And.intro (Or.inr (look_run rfl rfl (r_ld rfl hH194.get9 rfl))) True.intro) (D_l (v := (.i .i64 (rm - (((x.e.c.d.length : Nat)) : Int)))) rfl rfl rfl (by exact (r_subi rfl rfl (wrap_i64 (by omega) (by omega)))) ?_)
        refine D_store (vs := [(.i .i64 (rm - (((x.e.c.d.length : Nat)) : Int)))]) (c' := [(.i .i64 (rm - (((x.e.c.d.length : Nat)) : Int)))]) rfl (by rfl) hH194.get9 rfl (List.cons_ne_nil _ _) (Nat.le_of_ble_eq_true rfl) rfl fun H195 hW196 => ?_
        have hH197 := hH194.wr9 hW196
        refine And.intro (And.intro (Or.inl rfl) True.intro) (D_nil  (C_seq  ?_))
        refine C_draw fun b198 H199 hbase200 hA201 => ?_
        have hH202 := hH197.keep (by have := hA201.1; omega) (fun q _ => hA201.2 q) ((hH197.old).aside hA201).ok
        refine D_l (v := (pT x.n 0)) rfl rfl rfl (r_mv rfl) (D_l (v := (pT x.n 0)) rfl rfl rfl (r_mv rfl) (D_l (v := (pT x.n 0)) rfl rfl rfl (r_mv rfl) (D_l (v := (pT x.n 0)) rfl rfl rfl (r_nilc rfl) (D_l (v := (pT x.n 13)) rfl rfl rfl (r_fadd' rfl rfl) (D_r (v := (.i .i64 now)) rfl rfl rfl (r_ld rfl hH202.get8 rfl) ?_)))))
        refine D_store (vs := [(.i .i64 1)]) (c' := [(.i .u8 x.e.c.k), (.i .u8 x.e.c.f), (.i .u32 x.e.a), (.i .u32 x.e.c.b), (.i .u16 x.e.c.o), (.i .u16 x.e.c.i), (.i .u32 x.e.c.p), x.e.c.x1, x.e.c.x2, x.e.c.x3, x.e.c.x4, (.sl da x.e.c.d.length dc dg), (.p (some (x.m, 0))), (.i .i64 1), (.i .i64 x.e.sent), (.i .i64 x.e.tm), (.i .i64 x.e.mi)]) rfl (by rfl) hH202.get0 rfl (List.cons_ne_nil _ _) (Nat.le_of_ble_eq_true rfl) rfl fun H203 hW204 => ?_
        have hH205 := hH202.wr0 hW204
        refine And.intro (And.intro (Or.inr (look_run rfl rfl (r_ld rfl hH205.get8 rfl))) True.intro) (D_l (v := (pT x.n 0)) rfl rfl rfl (r_nilc rfl) (D_l (v := (pT x.n 15)) rfl rfl rfl (r_fadd' rfl rfl) ?_))
        refine D_store (vs := [(.i .i64 now)]) (c' := [(.i .u8 x.e.c.k), (.i .u8 x.e.c.f), (.i .u32 x.e.a), (.i .u32 x.e.c.b), (.i .u16 x.e.c.o), (.i .u16 x.e.c.i), (.i .u32 x.e.c.p), x.e.c.x1, x.e.c.x2, x.e.c.x3, x.e.c.x4, (.sl da x.e.c.d.length dc dg), (.p (some (x.m, 0))), (.i .i64 1), (.i .i64 x.e.sent), (.i .i64 now), (.i .i64 x.e.mi)]) rfl (by rfl) hH205.get0 rfl (List.cons_ne_nil _ _) (Nat.le_of_ble_eq_true rfl) rfl fun H206 hW207 => ?_
        have hH208 := hH205.wr0 hW207
        refine And.intro (And.intro (Or.inl rfl) True.intro) (D_l (v := (pT x.n 0)) rfl rfl rfl (r_nilc rfl) (D_l (v := (pT x.n 16)) rfl rfl rfl (r_fadd' rfl rfl) ?_))
        refine D_store (vs := [(.i .i64 0)]) (c' := [(.i .u8 x.e.c.k), (.i .u8 x.e.c.f), (.i .u32 x.e.a), (.i .u32 x.e.c.b), (.i .u16 x.e.c.o), (.i .u16 x.e.c.i), (.i .u32 x.e.c.p), x.e.c.x1, x.e.c.x2, x.e.c.x3, x.e.c.x4, (.sl da x.e.c.d.length dc dg), (.p (some (x.m, 0))), (.i .i64 1), (.i .i64 x.e.sent), (.i .i64 now), (.i .i64 0)]) rfl (by rfl) hH208.get0 rfl (List.cons_ne_nil _ _) (Nat.le_of_ble_eq_true rfl) rfl fun H209 hW210 => ?_
        have hH211 := hH208.wr0 hW210
        refine And.intro True.intro (D_nil  (C_seq  (C_region  (pv (pT x.n 0) rfl (O_p (pT x.n 0) (r_nilc rfl) (pf (pT x.n 14) rfl rfl (O_p (.i .i64 x.e.sent) (r_ld rfl hH211.get0 rfl) (O_p (.i .i64 (x.e.sent + 1)) (by exact (r_addi rfl rfl (wrap_i64 (by omega) (by omega)))) (O_p (pT x.n 0) (r_nilc rfl) (pf (pT x.n 14) rfl rfl ?_))))))))))
        refine O_store (vs := [(.i .i64 (x.e.sent + 1))]) (c' := [(.i .u8 x.e.c.k), (.i .u8 x.e.c.f), (.i .u32 x.e.a), (.i .u32 x.e.c.b), (.i .u16 x.e.c.o), (.i .u16 x.e.c.i), (.i .u32 x.e.c.p), x.e.c.x1, x.e.c.x2, x.e.c.x3, x.e.c.x4, (.sl da x.e.c.d.length dc dg), (.p (some (x.m, 0))), (.i .i64 1), (.i .i64 (x.e.sent + 1)), (.i .i64 now), (.i .i64 0)]) rfl (by rfl) hH211.get0 rfl (List.cons_ne_nil _ _) (Nat.le_of_ble_eq_true rfl) rfl fun H212 hW213 => ?_
        have hH214 := hH211.wr0 hW213
        refine O_nil  (C_seq  (C_region  (pv (pT x.n 0) rfl (O_p (pT x.n 0) (r_nilc rfl) (pf (pT x.n 0) rfl rfl (O_p (.agg [(.i .u8 x.e.c.k), (.i .u8 x.e.c.f), (.i .u32 x.e.a), (.i .u32 x.e.c.b), (.i .u16 x.e.c.o), (.i .u16 x.e.c.i), (.i .u32 x.e.c.p), x.e.c.x1, x.e.c.x2, x.e.c.x3, x.e.c.x4, (.sl da x.e.c.d.length dc dg)]) (r_ldA rfl hH214.get0 rfl) ?_))))))
        refine O_alloc fun n215 H216 hN217 => ?_
        have hH218 := hH214.new hN217
        refine O_store (vs := [(.i .u8 x.e.c.k), (.i .u8 x.e.c.f), (.i .u32 x.e.a), (.i .u32 x.e.c.b), (.i .u16 x.e.c.o), (.i .u16 x.e.c.i), (.i .u32 x.e.c.p), x.e.c.x1, x.e.c.x2, x.e.c.x3, x.e.c.x4, (.sl da x.e.c.d.length dc dg)]) (c' := [(.i .u8 x.e.c.k), (.i .u8 x.e.c.f), (.i .u32 x.e.a), (.i .u32 x.e.c.b), (.i .u16 x.e.c.o), (.i .u16 x.e.c.i), (.i .u32 x.e.c.p), x.e.c.x1, x.e.c.x2, x.e.c.x3, x.e.c.x4, (.sl da x.e.c.d.length dc dg)]) rfl (by rfl) hH218.get0 rfl (List.cons_ne_nil _ _) (Nat.le_of_ble_eq_true rfl) rfl fun H219 hW220 => ?_
        have hH221 := hH218.wr0 hW220
        refine O_nil  (C_seq  (C_region  (pf (pT n215 11) rfl rfl (O_p (.sl da x.e.c.d.length dc dg) (r_ld rfl hH221.get0 rfl) ?_))))
        refine O_call (Ev.mono (clone_ev (tab := tabA) (sp := spA) rfl hH221.ok dhg (dhb _ hH221.top15.fst) (by first | omega | (simp only [List.length_take, List.length_drop, List.length_append, List.length_cons, List.length_nil, beN_len] <;> omega)) (by first | omega | (simp only [List.length_take, List.length_drop, List.length_append, List.length_cons, List.length_nil, beN_len] <;> omega)) (by first | omega | (simp only [List.length_replicate]; omega))) fun v222 H223 hq224 => ?_)
        obtain ⟨hM225, hK226⟩ := hq224
        obtain ⟨qa227, qg228, rfl, hqg229, _⟩ := hM225.own.bs
        have hH231 := Hs.ofMine hH221 hM225 hK226
        have hSq230 := Sq.ofMine hH221 hM225 hK226
        have hH232 := (hH231.top16)
        have hH233 := Hs.unassoc hH232
        refine pf (pT n215 11) rfl rfl ?_
        refine O_store (vs := [(.sl qa227 (x.e.c.d).length (x.e.c.d).length qg228)]) (c' := [(.i .u8 x.e.c.k), (.i .u8 x.e.c.f), (.i .u32 x.e.a), (.i .u32 x.e.c.b), (.i .u16 x.e.c.o), (.i .u16 x.e.c.i), (.i .u32 x.e.c.p), x.e.c.x1, x.e.c.x2, x.e.c.x3, x.e.c.x4, (.sl qa227 (x.e.c.d).length (x.e.c.d).length qg228)]) rfl (by rfl) hH233.get1 rfl (List.cons_ne_nil _ _) (Nat.le_of_ble_eq_true rfl) rfl fun H234 hW235 => ?_
        have hH236 := hH233.wr1 hW235
        refine O_nil  (C_region  (O_p ow (r_ld rfl hH236.get13 rfl) (O_p (.agg [(.i .u8 x.e.c.k), (.i .u8 x.e.c.f), (.i .u32 x.e.a), (.i .u32 x.e.c.b), (.i .u16 x.e.c.o), (.i .u16 x.e.c.i), (.i .u32 x.e.c.p), x.e.c.x1, x.e.c.x2, x.e.c.x3, x.e.c.x4, (.sl qa227 (x.e.c.d).length (x.e.c.d).length qg228)]) (r_ldA rfl hH236.get1 rfl) ?_)))
        refine O_bslice (c := [(.i .u8 x.e.c.k), (.i .u8 x.e.c.f), (.i .u32 x.e.a), (.i .u32 x.e.c.b), (.i .u16 x.e.c.o), (.i .u16 x.e.c.i), (.i .u32 x.e.c.p), x.e.c.x1, x.e.c.x2, x.e.c.x3, x.e.c.x4, (.sl qa227 (x.e.c.d).length (x.e.c.d).length qg228)]) rfl fun n237 H238 hN239 => ?_
        have hH240 := hH236.new hN239
        refine O_qh (by exact r_appq (n := rw2.length) (k := 1) (new := [(.i .u8 x.e.c.k), (.i .u8 x.e.c.f), (.i .u32 x.e.a), (.i .u32 x.e.c.b), (.i .u16 x.e.c.o), (.i .u16 x.e.c.i), (.i .u32 x.e.c.p), x.e.c.x1, x.e.c.x2, x.e.c.x3, x.e.c.x4, (.sl qa227 (x.e.c.d).length (x.e.c.d).length qg228)]) hH240.top16 hq3 rfl rfl rfl (src_blk hH240.get0 (by rfl)) rfl (by decide) (by decide) (flat_len hq4.lens) (by first | omega | (simp only [List.length_take, List.length_drop, List.length_append, List.length_cons, List.length_nil, beN_len] <;> omega))) fun o241 H242 hA244 => ?_
        obtain ⟨c243, hA244, hH245⟩ := hA244
        obtain ⟨qa246, ql247, qc248, qg249, rfl⟩ := hA244.isSl
        refine O_store (vs := [(.sl qa246 ql247 qc248 qg249)]) (c' := [(.sl qa246 ql247 qc248 qg249)]) rfl (by rfl) hH245.get15 rfl (List.cons_ne_nil _ _) (Nat.le_of_ble_eq_true rfl) rfl fun H250 hW251 => ?_
        have hH252 := hH245.wr15 hW251
        refine O_nil  ?_
        refine ⟨_, _, _, _, _, (hH252.get11), fun H4 hWr => ?_⟩
        have hH253 := Hs.cong11 (B := [(L, some LB)]) (hH252.wr11 hWr) (by rw [hLB]; rfl)
        have hH254 := ((hH253.top5).top5)
        rw [← de] at hH254
        have hH255 := En.back (y := (⟨x.e.fly now, x.n, x.m, x.dv⟩ : En)) hxj hH254
        have hH256 := ((hH255.sub2).sub3)
        have hH257 := ((((((((((((((hH256.top2).top2).top13).top13).top13).top13).top13).top13).top8).top13).top13).top13).top13).top13)
        have hts := tk_fly (S := 0) (now := now) (RM := (takeL 2 now (q0.map En.e) room).2.2.1) h0j hst2 hq2 (by rw [← hrm, ← hxe]; exact hrf)
        rw [← hxe] at hts
        exact ⟨_, rfl, fun _ => ⟨q2.set j (⟨x.e.fly now, x.n, x.m, x.dv⟩ : En), (.sl qa246 ql247 qc248 qg249), c243, rw2 ++ [cxRow x.e.c x.e.a (.sl qa227 (x.e.c.d).length (x.e.c.d).length qg228)], (D2 ++ (qseg (.sl qa227 (x.e.c.d).length (x.e.c.d).length qg228) (bcells x.e.c.d))), set_names hxj rfl hq0, by rw [hts]; exact tk_set h0j hq1 tk_len, by rw [hts], by rw [← flat_snoc]; exact hA244, by rw [hts, List.map_append, ← List.append_assoc]; exact (hq4.mono fun _ hh => hh.fst).snoc (x := (x.e.c, x.e.a)) ⟨_, _, _, rfl, hqg229, Nat.le_refl _, by omega, fun _ hh => Sq.bs (R := []) hSq230 (by rw [List.append_nil]; exact hh.sub)⟩, set_all (fun z hz => (hq5 z hz).mono fun _ hh => hh.fst) ((hq5 x (List.mem_of_getElem? hxj)).mono fun _ hh => hh.fst), fun H2 hh => hq6 H2 hh.fst, by rw [hts, ← hrm]; exact hH257⟩, fun h => by cases h⟩
    rcases hE with hE | hE
    ·
      obtain ⟨q2, ow, od, rw2, D2, hq0, hq1, hq2, hq3, hq4, hq5, hq6, hHE⟩ := hE
      refine ⟨.ready, none, _, _, _, _, (hHE.get6).trans (congrArg some hLB), by decide, fun HD hD => ?_⟩
      have hH258 := hHE.drp6 hD
      have hta : (q.map En.e).take q.length = (q.map En.e) := List.take_of_length_le (by rw [List.length_map]; exact Nat.le_refl _)
      have htd : (q.map En.e).drop q.length = [] := List.drop_eq_nil_of_le (by rw [List.length_map]; exact Nat.le_refl _)
      rw [htd, List.append_nil] at hq1
      rw [hta] at hq1 hq2 hq4 hH258
      have hn1 := hq0
      have he1 := hq1
      have hf1 := hq2
      have hs1 := hq3
      have hc1 := hq4
      have ho1k := hq5
      have hm1 := hq6
      refine C_region  (O_p (.i .i64 2) (r_bin rfl rfl rfl) (pv (.i .i64 2) rfl (O_nil  (C_loop  (C_seq  (C_region  (O_p (.b false) (r_bin rfl rfl rfl) (O_nil  (C_seq  ?_)))))))))
      refine C_cond (x := false) rfl (fun h => by cases h) (fun _ => ?_)
      refine C_exit  (nx_exit  (nx_exit  (bk_hit  (C_seq  (C_region  ?_)))))
      obtain ⟨qa259, ql260, qc261, qg262, rfl⟩ := hs1.isSl
      refine O_p (.sl qa259 ql260 qc261 qg262) (r_ld rfl hH258.get9 rfl) ?_
      refine O_store (vs := [(.sl qa259 ql260 qc261 qg262)]) (c' := [(.sl qa259 ql260 qc261 qg262)]) rfl (by rfl) hH258.get8 rfl (List.cons_ne_nil _ _) (Nat.le_of_ble_eq_true rfl) rfl fun H263 hW264 => ?_
      have hH265 := hH258.wr8 hW264
      refine O_nil  (C_ret  ?_)
      have hcell := hH265.get8
      have hH266 := ((((((((hH265.sub0).sub0).sub0).sub3).sub3).sub3).sub3).sub3)
      have hH267 := (((((hH266.top4).top3).top3).top3).top4)
      exact ⟨.inr rfl, _, resL_one (r_cell (v := (.sl qa259 ql260 qc261 qg262)) rfl hcell rfl), q2, (.sl qa259 ql260 qc261 qg262), od, rw2, D2, rfl, hn1.trans hn0, by unfold take2; rw [if_neg (by rw [hf0]; decide), ← he0]; exact he1, hs1, by unfold take2; rw [if_neg (by rw [hf0]; decide), ← he0, List.map_append]; exact hc1, ho1k, fun H2 h => hm0 H2 (hm1 H2 h), hH267⟩
    ·
      obtain ⟨LB2, q2, ow, od, rw2, D2, ho0, ho1, ho2, ho3, ho4, ho5, ho6, ho7, hHE⟩ := hE
      obtain ⟨z1, z2, z3, z4, rfl⟩ := ho0
      refine ⟨.done, some .ret, _, _, _, _, (hHE.get3), by decide, fun HD hD => ?_⟩
      have hH268 := hHE.drp3 hD
      have hF1 : True := True.intro
      refine bk_ret  (bk_ret  (nx_ret  (nx_ret  (bk_ret  (nx_ret  ?_)))))
      have hcell := hH268.get3
      have hH269 := (hH268.sub3)
      have hH270 := (((((hH269.top4).top3).top3).top3).top4)
      exact ⟨.inr rfl, _, resL_one (r_cell (v := ow) rfl hcell rfl), q2, ow, od, rw2, D2, rfl, ho1.trans hn0, by unfold take2; rw [if_neg (by rw [hf0]; decide), ← he0]; exact ho2, ho4, by unfold take2; rw [if_neg (by rw [hf0]; decide), ← he0, List.map_append]; exact ho5, ho6, fun H2 h => hm0 H2 (ho7 H2 h), hH270⟩
  ·
    obtain ⟨LB2, q, ov, oc, rw1, D1, ho0, ho1, ho2, ho3, ho4, ho5, ho6, ho7, hHE⟩ := hE
    obtain ⟨z1, z2, z3, z4, rfl⟩ := ho0
    refine ⟨.done, some .ret, _, _, _, _, (hHE.get3), by decide, fun HD hD => ?_⟩
    have hH271 := hHE.drp3 hD
    have hF0 : True := True.intro
    refine bk_ret  (bk_ret  (nx_ret  (nx_ret  (bk_ret  (nx_ret  ?_)))))
    have hcell := hH271.get3
    have hH272 := (hH271.sub3)
    have hH273 := (((((hH272.top4).top3).top3).top3).top4)
    exact ⟨.inr rfl, _, resL_one (r_cell (v := ov) rfl hcell rfl), q, ov, oc, rw1, D1, rfl, ho1, by unfold take2; rw [if_pos ho3]; exact ho2, ho4, by unfold take2; rw [if_pos ho3]; exact ho5, ho6, ho7, hH273⟩
set_option linter.unusedVariables false
set_option linter.unusedSimpArgs false
theorem w32_succ (a : Int) (j : Nat) : w32 (w32 (a + ((j : Nat) : Int)) + 1) = w32 (a + ((j + 1 : Nat) : Int)) := by
 simp only [w32, wrap_u32]; omega
theorem w32_id {a : Int} (h : 0 ≤ a ∧ a < 4294967296) : w32 (a + ((0 : Nat) : Int)) = a := by
 simp only [w32, wrap_u32]; omega
theorem En.app {H : AH} {R : HL} {q : List En} {y : En} (hH : Hs H (q.flatMap En.seg ++ ([(y.n, some (.cells (enRow y) true))] ++ R))) : Hs H ((q ++ [y]).flatMap En.seg ++ R) := by
 rw [List.flatMap_append, List.append_assoc]
 exact hH
theorem pr_app {q : List En} {y : En} : (q.map En.pr).flatten ++ [AV.p (some (y.n, 0))] = ((q ++ [y]).map En.pr).flatten := by
 rw [List.map_append]; exact flat_snoc _ _
theorem push_at {cs : List (Cx × Int)} {j : Nat} {x : Cx × Int} {nx : Int} (h : cs[j]? = some x) : pushA (cs.take (j + 1)) nx = pushA (cs.take j) nx ++ [⟨x.1, w32 (nx + ((j : Nat) : Int)), 0, 0, 0, 0⟩] := by
 have hj := (List.getElem?_eq_some_iff.1 h).1
 rw [take_at h, pushA_snoc, List.length_take, Nat.min_eq_left (Nat.le_of_lt hj)]
set_option maxHeartbeats 2000000 in
theorem push_raw {H : AH} {R D B : HL} {F : Nat} {lv v : AV} {lc : List AV} {nx un tr : Int} {q : List En} {rows : List (List AV)} {cs : List (Cx × Int)} (hv : ∀ H', Hs H' B → Rw 12 H' v rows) (hcr : CxsR B rows cs) (hgood : ∀ c ∈ cs, c.1.k = 0 ∧ 0 < c.1.d.length) (hne : 0 < cs.length) (hfit : q.length + cs.length ≤ 1024) (hsz : ∀ c ∈ cs, c.1.d.length ≤ 1000000) (hnx : 0 ≤ nx ∧ nx < 4294967296) (hlv : Sq 1 lv lc (q.map En.pr).flatten) (hok : ∀ x ∈ q, OctIn D x.dv x.e.c.d) (hH0 : Hs H ([(F, some (.cells ([lv, (.i .u32 nx)]) true))] ++ ((qseg lv lc) ++ ((q.flatMap En.seg) ++ (D ++ (B ++ (R))))))) : Ev tabA spA (.fn (.func 12) [] []) [.p (some (F, 0)), v, .i .i64 un, .i .i64 tr] H (fun r H' => ∃ (q' : List En) (lv' : AV) (lc' : List AV) (m : Nat) (D' : HL), r = .i .i64 0 ∧ q'.map En.e = q.map En.e ++ pushA cs nx ∧ q'.map En.m = q.map En.m ++ List.replicate cs.length m ∧ Sq 1 lv' lc' (q'.map En.pr).flatten ∧ (∀ x ∈ q', OctIn D' x.dv x.e.c.d) ∧ (∀ H', Hs H' D' → Hs H' D) ∧ Hs H' ([(F, some (.cells [lv', .i .u32 (w32 (nx + ((cs.length : Nat) : Int)))] true))] ++ (qseg lv' lc' ++ (q'.flatMap En.seg ++ ([(m, some (.cells [.i .i64 un, .i .i64 tr, .b false] true))] ++ (D' ++ (B ++ R))))))) := by
 refine Ev_C (F := x12) rfl ?_
 refine C_seq  (C_region  (pv (.i .i64 0) rfl (O_nil  (C_seq  (C_block  (C_seq  (C_region  (pv (pT F 0) rfl (O_p (.b false) (r_nilq_s rfl) (pv (.b false) rfl (O_gk rfl (pv v rfl (O_gk rfl ?_)))))))))))))
 refine O_p (.i .i64 (((cs.length : Nat)) : Int)) (r_lenOf (v := v) (n := cs.length) rfl ((hv _ hH0.top4.fst).lenOf hcr.1) (hv _ hH0.top4.fst).isSl) (O_gk rfl (O_p (.b false) (by exact (by rw [r_eql rfl rfl, decide_eq_false (by omega)])) (O_p (.b false) (r_pick_f rfl rfl) (pv (.b false) rfl (O_gk rfl (pv v rfl (O_gk rfl ?_)))))))
 have hH1 := (hH0.top4)
 refine O_call (Ev.mono (cont_ev hv hcr hgood (by omega) hH1) fun v2 H3 hq4 => ?_)
 obtain ⟨rfl, hH5⟩ := hq4
 refine O_p (.b false) (r_pick_f rfl rfl) (pv (.b false) rfl (O_nil  ?_))
 refine C_cond (x := false) rfl (fun h => by cases h) (fun _ => ?_)
 refine C_seq  (C_region  (pv (pT F 0) rfl (O_p (pT F 0) (r_nilc rfl) (pf (pT F 0) rfl rfl (O_p lv (r_ld rfl hH5.get1 rfl) (O_p (.i .i64 (((q.length : Nat)) : Int)) (by exact (by exact r_lenOf rfl (hlv.lenOf ((flat_len (pr_lens q)).trans (by rw [List.length_map])) (by decide)) hlv.isSl)) (pv v rfl (O_p (.i .i64 (((cs.length : Nat)) : Int)) (r_lenOf (v := v) (n := cs.length) rfl ((hv _ hH5.top0.fst).lenOf hcr.1) (hv _ hH5.top0.fst).isSl) (O_p (.i .i64 ((((q.length : Nat)) : Int) + (((cs.length : Nat)) : Int))) (by exact (r_addi rfl rfl (wrap_i64 (by omega) (by omega)))) (O_p (.b false) (by exact (by rw [r_gtr rfl rfl, decide_eq_false (by omega)])) (pv (.b false) rfl (O_nil  ?_))))))))))))
 refine C_cond (x := false) rfl (fun h => by cases h) (fun _ => ?_)
 refine C_skip  (C_seq  (C_region  (pv (.i .i64 un) rfl (pv (.i .i64 tr) rfl (O_p (.agg [(.i .i64 un), (.i .i64 tr), (.b false)]) (r_build rfl) ?_)))))
 refine O_box (z := [(.i .i64 un), (.i .i64 tr), (.b false)]) rfl fun n6 H7 hN8 => ?_
 have hH9 := hH5.new hN8
 refine pv (pT n6 0) rfl (O_nil  (C_seq  (C_seq  (C_region  (pv v rfl (O_p (.i .i64 (((cs.length : Nat)) : Int)) (r_lenOf (v := v) (n := cs.length) rfl ((hv _ hH9.top1.fst).lenOf hcr.1) (hv _ hH9.top1.fst).isSl) (pv (.i .i64 0) rfl (O_nil  (C_block  ?_)))))))))
 have hH10 := ((((((hH9.top1).top5).top2).top5).top5).top5)
 refine C_while (fun m11 T12 H13 => ∃ q1 : List En, ∃ lw : AV, ∃ lwc : List AV, ∃ D1 : HL, ∃ j : Nat, m11 = cs.length - j ∧ j ≤ cs.length ∧ q1.map En.e = q.map En.e ++ pushA (cs.take j) nx ∧ Sq 1 lw lwc (q1.map En.pr).flatten ∧ (∀ x ∈ q1, OctIn D1 x.dv x.e.c.d) ∧ (∀ H', Hs H' D1 → Hs H' D) ∧ q1.length = q.length + j ∧ q1.map En.m = q.map En.m ++ List.replicate j n6 ∧ Hs H13 ([(F, some (.cells ([lw, (.i .u32 (w32 (nx + ((j : Nat) : Int))))]) true))] ++ ((qseg lw lwc) ++ ((q1.flatMap En.seg) ++ ([(n6, some (.cells ([(.i .i64 un), (.i .i64 tr), (.b false)]) true))] ++ (D1 ++ (B ++ (R))))))) ∧ T12.get 0 = (.p (some (F, 0))) ∧ T12.get 9 = (.p (some (n6, 0))) ∧ T12.get 38 = v ∧ T12.get 39 = (.i .i64 (((cs.length : Nat)) : Int)) ∧ T12.get 40 = (.i .i64 (((j : Nat)) : Int))) (fun m11 T12 H13 hI14 => ?_) cs.length _ _ ⟨q, lv, lc, D, 0, rfl, Nat.zero_le _, by rw [List.take_zero]; exact (List.append_nil _).symm, hlv, hok, fun _ h => h, rfl, (List.append_nil _).symm, (by rw [w32_id hnx]; exact hH10), rfl, rfl, rfl, rfl, rfl⟩
 obtain ⟨q1, lw, lwc, D1, j, hm15, hp16, hp17, hp18, hp19, hp20, hp21, hp22, hH28, hT23, hT24, hT25, hT26, hT27⟩ := hI14
 refine C_seq  (C_region  (O_p (.b (decide ((((j : Nat)) : Int) < (((cs.length : Nat)) : Int)))) (r_lss hT27 hT26) (O_nil  (C_seq  ?_))))
 refine C_cond (x := (decide ((((j : Nat)) : Int) < (((cs.length : Nat)) : Int)))) rfl (fun hc29 => ?_) (fun hc29 => ?_)
 ·
  try simp only [dz1, dz2, dz3, dz4, dz5, dz6, dz7, dz8, dz9] at hc29
  refine C_skip  (C_seq  (C_block  (C_seq  (C_region  ?_))))
  have hjl : j < cs.length := by omega
  obtain ⟨x, dv, hxi, hri, hoc⟩ := hcr.get hjl
  have hgx := hgood x (List.mem_of_getElem? hxi)
  obtain ⟨da, dc, dg, de, dhg, dhc, dhm, dhb⟩ := hoc
  subst de
  unfold cxRow at hri
  have hxd := hsz x (List.mem_of_getElem? hxi)
  refine O_q (by exact Rw.row (hv _ hH28.top5.fst) (by exact hT25) (i := j) (by exact hT27) (r := [(.i .u8 x.1.k), (.i .u8 x.1.f), (.i .u32 x.2), (.i .u32 x.1.b), (.i .u16 x.1.o), (.i .u16 x.1.i), (.i .u32 x.1.p), x.1.x1, x.1.x2, x.1.x3, x.1.x4, (.sl da x.1.d.length dc dg)]) hri) fun v31 hv30 => ?_
  obtain ⟨rb32, ro33, rfl, hr34⟩ := hv30
  refine O_p (.agg [(.i .u8 x.1.k), (.i .u8 x.1.f), (.i .u32 x.2), (.i .u32 x.1.b), (.i .u16 x.1.o), (.i .u16 x.1.i), (.i .u32 x.1.p), x.1.x1, x.1.x2, x.1.x3, x.1.x4, (.sl da x.1.d.length dc dg)]) (r_ldRA (q := 0) rfl (hr34 _ (hv _ hH28.top5.fst)) rfl) ?_
  refine O_alloc fun n35 H36 hN37 => ?_
  have hH38 := hH28.new hN37
  refine O_store (vs := [(.i .u8 x.1.k), (.i .u8 x.1.f), (.i .u32 x.2), (.i .u32 x.1.b), (.i .u16 x.1.o), (.i .u16 x.1.i), (.i .u32 x.1.p), x.1.x1, x.1.x2, x.1.x3, x.1.x4, (.sl da x.1.d.length dc dg)]) (c' := [(.i .u8 x.1.k), (.i .u8 x.1.f), (.i .u32 x.2), (.i .u32 x.1.b), (.i .u16 x.1.o), (.i .u16 x.1.i), (.i .u32 x.1.p), x.1.x1, x.1.x2, x.1.x3, x.1.x4, (.sl da x.1.d.length dc dg)]) rfl (by rfl) hH38.get0 rfl (List.cons_ne_nil _ _) (Nat.le_of_ble_eq_true rfl) rfl fun H39 hW40 => ?_
  have hH41 := hH38.wr0 hW40
  refine O_nil  (C_seq  ?_)
  refine C_draw fun b42 H43 hbase44 hA45 => ?_
  have hH46 := hH41.keep (by have := hA45.1; omega) (fun q _ => hA45.2 q) ((hH41.old).aside hA45).ok
  refine D_l (v := (pT F 0)) rfl rfl rfl (r_mv hT23) (D_l (v := (pT F 0)) rfl rfl rfl (r_nilc rfl) (D_l (v := (pT F 1)) rfl rfl rfl (r_fadd' rfl rfl) (D_l (v := (pT n35 11)) rfl rfl rfl (r_fadd' rfl rfl) (D_r (v := (.i .u32 (w32 (nx + ((j : Nat) : Int))))) rfl rfl rfl (r_ld rfl hH46.get1 rfl) (D_r (v := (.sl da x.1.d.length dc dg)) rfl rfl rfl (r_ld rfl hH46.get0 rfl) (D_l (v := (pT n35 2)) rfl rfl rfl (r_fadd' rfl rfl) ?_))))))
  refine D_call (Ev.mono (clone_ev (tab := tabA) (sp := spA) rfl hH46.ok dhg (dhb _ hH46.top6.fst) (by first | omega | (simp only [List.length_take, List.length_drop, List.length_append, List.length_cons, List.length_nil, beN_len] <;> omega)) (by first | omega | (simp only [List.length_take, List.length_drop, List.length_append, List.length_cons, List.length_nil, beN_len] <;> omega)) (by first | omega | (simp only [List.length_replicate]; omega))) fun v47 H48 hq49 => ?_)
  obtain ⟨hM50, hK51⟩ := hq49
  obtain ⟨qa52, qg53, rfl, hqg54, _⟩ := hM50.own.bs
  have hH56 := Hs.ofMine hH46 hM50 hK51
  have hSq55 := Sq.ofMine hH46 hM50 hK51
  have hH57 := (hH56.top6)
  have hH58 := Hs.unassoc hH57
  refine And.intro (And.intro (Or.inl rfl) (And.intro (Or.inr (look_run rfl rfl (r_ld rfl hH58.get2 rfl))) True.intro)) ?_
  refine D_store (vs := [(.i .u32 (w32 (nx + ((j : Nat) : Int))))]) (c' := [(.i .u8 x.1.k), (.i .u8 x.1.f), (.i .u32 (w32 (nx + ((j : Nat) : Int)))), (.i .u32 x.1.b), (.i .u16 x.1.o), (.i .u16 x.1.i), (.i .u32 x.1.p), x.1.x1, x.1.x2, x.1.x3, x.1.x4, (.sl da x.1.d.length dc dg)]) rfl (by rfl) hH58.get1 rfl (List.cons_ne_nil _ _) (Nat.le_of_ble_eq_true rfl) rfl fun H59 hW60 => ?_
  have hH61 := hH58.wr1 hW60
  refine And.intro (And.intro (Or.inl rfl) True.intro) (D_l (v := (pT n35 11)) rfl rfl rfl (r_fadd' rfl rfl) ?_)
  refine D_store (vs := [(.sl qa52 (x.1.d).length (x.1.d).length qg53)]) (c' := [(.i .u8 x.1.k), (.i .u8 x.1.f), (.i .u32 (w32 (nx + ((j : Nat) : Int)))), (.i .u32 x.1.b), (.i .u16 x.1.o), (.i .u16 x.1.i), (.i .u32 x.1.p), x.1.x1, x.1.x2, x.1.x3, x.1.x4, (.sl qa52 (x.1.d).length (x.1.d).length qg53)]) rfl (by rfl) hH61.get1 rfl (List.cons_ne_nil _ _) (Nat.le_of_ble_eq_true rfl) rfl fun H62 hW63 => ?_
  have hH64 := hH61.wr1 hW63
  refine And.intro True.intro (D_nil  (C_seq  (C_region  (pv (pT F 0) hT23 (O_p (pT F 0) (r_nilc rfl) (pf (pT F 1) rfl rfl (O_p (.i .u32 (w32 (nx + ((j : Nat) : Int)))) (r_ld rfl hH64.get2 rfl) (O_p (.i .u32 (IntKind.u32.wrap ((w32 (nx + ((j : Nat) : Int))) + 1))) (r_bin rfl rfl rfl) (O_p (pT F 0) (r_nilc rfl) (pf (pT F 1) rfl rfl ?_))))))))))
  refine O_store (vs := [(.i .u32 (IntKind.u32.wrap ((w32 (nx + ((j : Nat) : Int))) + 1)))]) (c' := [lw, (.i .u32 (IntKind.u32.wrap ((w32 (nx + ((j : Nat) : Int))) + 1)))]) rfl (by rfl) hH64.get2 rfl (List.cons_ne_nil _ _) (Nat.le_of_ble_eq_true rfl) rfl fun H65 hW66 => ?_
  have hH67 := hH64.wr2 hW66
  refine O_nil  ?_
  refine C_draw fun b68 H69 hbase70 hA71 => ?_
  have hH72 : Hs H69 (asideL b68 [8, 9] ++ _) := hH67.aside hA71 [8, 9] hbase70 rfl (by decide)
  have hH73 : Hs H69 ([(b68 + 8, none)] ++ ([(b68 + 9, none)] ++ _)) := hH72
  refine D_l (v := (pT F 0)) rfl rfl rfl (r_mv hT23) (D_l (v := (pT F 0)) rfl rfl rfl (r_mv hT23) (D_l (v := (pT F 0)) rfl rfl rfl (r_nilc rfl) (D_l (v := (pT F 0)) rfl rfl rfl (r_fadd' rfl rfl) (D_l (v := (pT n6 0)) rfl rfl rfl (r_mv hT24) (D_r (v := lw) rfl rfl rfl (r_ld rfl hH73.get4 rfl) (D_r (v := (.agg [(.i .u8 x.1.k), (.i .u8 x.1.f), (.i .u32 (w32 (nx + ((j : Nat) : Int)))), (.i .u32 x.1.b), (.i .u16 x.1.o), (.i .u16 x.1.i), (.i .u32 x.1.p), x.1.x1, x.1.x2, x.1.x3, x.1.x4, (.sl qa52 (x.1.d).length (x.1.d).length qg53)])) rfl rfl rfl (r_ldA rfl hH73.get3 rfl) (D_l (v := (.agg [(.i .u8 x.1.k), (.i .u8 x.1.f), (.i .u32 (w32 (nx + ((j : Nat) : Int)))), (.i .u32 x.1.b), (.i .u16 x.1.o), (.i .u16 x.1.i), (.i .u32 x.1.p), x.1.x1, x.1.x2, x.1.x3, x.1.x4, (.sl qa52 (x.1.d).length (x.1.d).length qg53), (pT n6 0), (.i .i64 0), (.i .i64 0), (.i .i64 0), (.i .i64 0)])) rfl rfl rfl (r_build rfl) ?_)))))))
  refine D_m (f := fun n => ((.p (some (n, 0))), .cells [(.i .u8 x.1.k), (.i .u8 x.1.f), (.i .u32 (w32 (nx + ((j : Nat) : Int)))), (.i .u32 x.1.b), (.i .u16 x.1.o), (.i .u16 x.1.i), (.i .u32 x.1.p), x.1.x1, x.1.x2, x.1.x3, x.1.x4, (.sl qa52 (x.1.d).length (x.1.d).length qg53), (.p (some (n6, 0))), (.i .i64 0), (.i .i64 0), (.i .i64 0), (.i .i64 0)] true)) rfl rfl fun H75 hW76 => ?_
  have hH78 := hH73.wr0 hW76
  generalize hn77 : b68 + 8 = n74 at hW76 hH78 ⊢
  refine And.intro (And.intro (Or.inl rfl) (And.intro (Or.inr (look_run rfl rfl (r_ld rfl hH78.get4 rfl))) True.intro)) ?_
  refine D_m (f := fun n => ((.sl (some (n, 0)) 1 1 0), .cells [(.p (some (n74, 0)))] true)) rfl rfl fun H80 hW81 => ?_
  have hH83 := hH78.wr1 hW81
  generalize hn82 : b68 + 9 = n79 at hW81 hH83 ⊢
  refine And.intro (And.intro (Or.inr (look_run rfl rfl (r_ld rfl hH83.get4 rfl))) True.intro) ?_
  refine D_qh rfl rfl (by exact r_appq (n := q1.length) (k := 1) (new := [(.p (some (n74, 0)))]) hH83.top5 hp18 rfl rfl rfl (src_blk hH83.get1 (by rfl)) rfl (by decide) (by decide) ((flat_len (pr_lens q1)).trans (by rw [List.length_map])) (by first | omega | (simp only [List.length_take, List.length_drop, List.length_append, List.length_cons, List.length_nil, beN_len] <;> omega))) fun o84 H85 hA87 => ?_
  obtain ⟨c86, hA87, hH88⟩ := hA87
  refine And.intro (And.intro (Or.inl rfl) True.intro) ?_
  obtain ⟨qa89, ql90, qc91, qg92, rfl⟩ := hA87.isSl
  refine D_l (v := (pT F 0)) rfl rfl rfl (r_nilc rfl) (D_l (v := (pT F 0)) rfl rfl rfl (r_fadd' rfl rfl) ?_)
  refine D_store (vs := [(.sl qa89 ql90 qc91 qg92)]) (c' := [(.sl qa89 ql90 qc91 qg92), (.i .u32 (IntKind.u32.wrap ((w32 (nx + ((j : Nat) : Int))) + 1)))]) rfl (by rfl) hH88.get5 rfl (List.cons_ne_nil _ _) (Nat.le_of_ble_eq_true rfl) rfl fun H93 hW94 => ?_
  have hH95 := hH88.wr5 hW94
  refine And.intro True.intro (D_nil  (C_region  (O_p (.i .i64 ((((j : Nat)) : Int) + 1)) (by exact (r_addi hT27 rfl (wrap_i64 (by omega) (by omega)))) (pv (.i .i64 ((((j : Nat)) : Int) + 1)) rfl (O_nil  ?_)))))
  have hH96 := ((hH95.top1).top6)
  have hH97 := En.app (y := (⟨⟨x.1, w32 (nx + ((j : Nat) : Int)), 0, 0, 0, 0⟩, n74, n6, (.sl qa52 (x.1.d).length (x.1.d).length qg53)⟩ : En)) hH96
  have hH98 := ((hH97.sub2).sub3)
  have hH99 := ((((((hH98.top5).top3).top5).top3).top4).top5)
  have hps1 := push_at (nx := nx) hxi
  have hH100 := hH99
  rw [show IntKind.u32.wrap ((w32 (nx + ((j : Nat) : Int))) + 1) = w32 (nx + ((j + 1 : Nat) : Int)) from w32_succ nx j] at hH100
  exact ⟨cs.length - (j + 1), by omega, (q1 ++ [(⟨⟨x.1, w32 (nx + ((j : Nat) : Int)), 0, 0, 0, 0⟩, n74, n6, (.sl qa52 (x.1.d).length (x.1.d).length qg53)⟩ : En)]), (.sl qa89 ql90 qc91 qg92), c86, (D1 ++ (qseg (.sl qa52 (x.1.d).length (x.1.d).length qg53) (bcells x.1.d))), (j + 1), rfl, by omega, by rw [hps1, List.map_append, hp17, List.append_assoc]; rfl, by rw [← pr_app]; exact hA87, fun z hz => by rcases List.mem_append.1 hz with h9 | h9; exact (hp19 z h9).mono fun _ hh => hh.fst; obtain rfl := List.mem_singleton.1 h9; exact ⟨_, _, _, rfl, hqg54, Nat.le_refl _, by omega, fun _ hh => Sq.bs (R := []) hSq55 (by rw [List.append_nil]; exact hh.sub)⟩, fun H2 hh => hp20 H2 hh.fst, by rw [List.length_append]; show q1.length + 1 = _; omega, by rw [List.map_append, hp22, List.append_assoc, List.replicate_succ']; rfl, hH100, hT23, hT24, hT25, hT26, rfl⟩
 ·
  try simp only [dz1, dz2, dz3, dz4, dz5, dz6, dz7, dz8, dz9] at hc29
  refine C_exit  (nx_exit  (nx_exit  (bk_hit  (C_seq  (C_region  (pv (.i .i64 0) rfl (O_nil  (C_ret  ?_))))))))
  have hH101 := ((((((hH28.top5).top5).top5).top5).top5).top5)
  have hjn : j = cs.length := by omega
  have hH102 := hH101
  rw [hjn] at hH102
  exact ⟨.inr rfl, _, resL_one (r_tmp (v := (.i .i64 0)) rfl), q1, lw, lwc, n6, D1, rfl, by have h9 := hp17; rw [hjn, List.take_length] at h9; exact h9, by rw [← hjn]; exact hp22, hp18, hp19, hp20, hH102⟩
set_option linter.unusedVariables false
set_option linter.unusedSimpArgs false
abbrev zc (n : Nat) : Cx := ⟨0, 3, 0, 0, 0, 0, .sl none 0 0 0, .sl none 0 0 0, .sl none 0 0 0, .sl none 0 0 0, List.replicate n 0⟩
theorem w32_r (a : Int) : 0 ≤ w32 a ∧ w32 a < 4294967296 := by simp only [w32, wrap_u32]; omega
section
variable {H : AH} {F : Nat} {es : List Ea} {nx : Int} {D L R : HL}
theorem q_flying (h : Qr F es nx D L) (hl : es.length ≤ 100000) (hsz : ∀ e ∈ es, e.c.d.length ≤ 1000000) (hH : Hs H (L ++ R)) : Ev tabA spA (.fn (.func 19) [] []) [.p (some (F, 0))] H (fun r H' => r = .i .i64 ((octs [1] es : Nat) : Int) ∧ Hs H' (L ++ R)) := by
 obtain ⟨lv, lc, q, rfl, hlv, hok, rfl⟩ := h
 rw [List.append_assoc, List.append_assoc] at hH ⊢
 exact flying_raw hlv (by rw [List.length_map] at hl; exact hl) hok hsz hH
theorem q_left (h : Qr F es nx D L) (hl : es.length ≤ 100000) (hsz : ∀ e ∈ es, e.c.d.length ≤ 1000000) (hH : Hs H (L ++ R)) : Ev tabA spA (.fn (.func 20) [] []) [.p (some (F, 0))] H (fun r H' => r = .i .i64 ((octs [0, 2] es : Nat) : Int) ∧ Hs H' (L ++ R)) := by
  obtain ⟨lv, lc, q, rfl, hlv, hok, rfl⟩ := h
  rw [List.append_assoc, List.append_assoc] at hH ⊢
  exact left_raw hlv (by rw [List.length_map] at hl; exact hl) hok hsz hH
end
def mkE : Int → List Nat → List Ea
  | _, [] => []
  | a, n :: l => ⟨zc n, w32 a, 0, 0, 0, 0⟩ :: mkE (a + 1) l
end Go.Proofs.Ytipcacpaadgagaa.E
