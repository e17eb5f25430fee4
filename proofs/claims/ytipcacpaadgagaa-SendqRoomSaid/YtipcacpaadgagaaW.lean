/- Queues of chunks: as a whole. It bears no condition. -/
import Derived.Test.YtipcacpaadgagaaP
namespace Go.Proofs.Ytipcacpaadgagaa.E
set_option linter.unusedVariables false
set_option linter.unusedSimpArgs false
theorem cx_len (c : Cx) (a : Int) (dv : AV) : (cxRow c a dv).length = 12 := rfl
abbrev zc (n : Nat) : Cx := ⟨0, 3, 0, 0, 0, 0, .sl none 0 0 0, .sl none 0 0 0, .sl none 0 0 0, .sl none 0 0 0, List.replicate n 0⟩
theorem w32_w (a : Int) : w32 (w32 a) = w32 a := by simp only [w32, wrap_u32]; omega
theorem w32_r (a : Int) : 0 ≤ w32 a ∧ w32 a < 4294967296 := by simp only [w32, wrap_u32]; omega
section
variable {H : AH} {F : Nat} {es : List Ea} {nx : Int} {D L R : HL}
theorem q_new0 (a : Int) : Qr F [] a [] ([(F, some (.cells [.sl none 0 0 0, .i .u32 a] true))] ++ []) := ⟨.sl none 0 0 0, [], [], rfl, Sq.nil, fun x hx => (by cases hx), rfl⟩
theorem q_push {B : HL} {v : AV} {rows : List (List AV)} {cs : List (Cx × Int)} {un tr : Int} (h : Qr F es nx D L) (hv : ∀ H', Hs H' B → Rw 12 H' v rows) (hcr : CxsR B rows cs) (hgood : ∀ c ∈ cs, c.1.k = 0 ∧ 0 < c.1.d.length) (hne : 0 < cs.length) (hfit : es.length + cs.length ≤ 1024) (hsz : ∀ c ∈ cs, c.1.d.length ≤ 1000000) (hnx : 0 ≤ nx ∧ nx < 4294967296) (hH : Hs H (L ++ (D ++ (B ++ R)))) :
    Ev tabA spA (.fn (.func 12) [] []) [.p (some (F, 0)), v, .i .i64 un, .i .i64 tr] H (fun r H' => ∃ L' D' m, r = .i .i64 0 ∧ Qr F (es ++ pushA cs nx) (w32 (nx + ((cs.length : Nat) : Int))) D' L' ∧ (∀ H', Hs H' D' → Hs H' D) ∧ Hs H' (L' ++ ([(m, some (.cells [.i .i64 un, .i .i64 tr, .b false] true))] ++ (D' ++ (B ++ R))))) := by
  obtain ⟨lv, lc, q, rfl, hlv, hok, rfl⟩ := h
  rw [List.append_assoc, List.append_assoc] at hH
  refine Ev.mono (push_raw hv hcr hgood hne (by rw [List.length_map] at hfit; exact hfit) hsz hnx hlv hok hH) fun r H2 hq => ?_
  obtain ⟨q2, lv2, lc2, m, D2, rfl, he, hl2, hok2, hm, hh⟩ := hq
  exact ⟨_, D2, m, rfl, ⟨lv2, lc2, q2, he, hl2, hok2, rfl⟩, hm, by rw [List.append_assoc, List.append_assoc]; exact hh⟩
theorem q_take {now room : Int} (h : Qr F es nx D L) (hl : es.length ≤ 100000) (hsz : ∀ e ∈ es, e.c.d.length ≤ 1000000) (hse : ∀ e ∈ es, 0 ≤ e.sent ∧ e.sent ≤ 1000000) (hrm : room ≤ 9223372036854775807) (hH : Hs H (L ++ (D ++ R))) :
    Ev tabA spA (.fn (.func 14) [] []) [.p (some (F, 0)), .i .i64 now, .i .i64 room] H (fun r H' => ∃ L' D' ov oc rows, r = ov ∧ Qr F (take2 now es room).1 nx D' L' ∧ Sq 12 ov oc rows.flatten ∧ CxsR D' rows ((take2 now es room).2.map Ea.ca) ∧ (∀ H', Hs H' D' → Hs H' D) ∧ Hs H' (qseg ov oc ++ (L' ++ (D' ++ R)))) := by
  obtain ⟨lv, lc, q, rfl, hlv, hok, rfl⟩ := h
  rw [List.append_assoc, List.append_assoc] at hH
  refine Ev.mono (take_raw hlv (by rw [List.length_map] at hl; exact hl) hok hsz hse hrm hH) fun r H2 hq => ?_
  obtain ⟨q2, ov, oc, rows, D2, rfl, hn, he, ho, hc, hok2, hm, hh⟩ := hq
  exact ⟨_, D2, r, oc, rows, rfl, ⟨lv, lc, q2, he, by rw [pr_map hn]; exact hlv, hok2, rfl⟩, ho, hc, hm, by rw [List.append_assoc, List.append_assoc]; exact hh⟩
theorem q_flying (h : Qr F es nx D L) (hl : es.length ≤ 100000) (hsz : ∀ e ∈ es, e.c.d.length ≤ 1000000) (hH : Hs H (L ++ R)) : Ev tabA spA (.fn (.func 19) [] []) [.p (some (F, 0))] H (fun r H' => r = .i .i64 ((octs [1] es : Nat) : Int) ∧ Hs H' (L ++ R)) := by
  obtain ⟨lv, lc, q, rfl, hlv, hok, rfl⟩ := h
  rw [List.append_assoc, List.append_assoc] at hH ⊢
  exact flying_raw hlv (by rw [List.length_map] at hl; exact hl) hok hsz hH
theorem q_left (h : Qr F es nx D L) (hl : es.length ≤ 100000) (hsz : ∀ e ∈ es, e.c.d.length ≤ 1000000) (hH : Hs H (L ++ R)) : Ev tabA spA (.fn (.func 20) [] []) [.p (some (F, 0))] H (fun r H' => r = .i .i64 ((octs [0, 2] es : Nat) : Int) ∧ Hs H' (L ++ R)) := by
  obtain ⟨lv, lc, q, rfl, hlv, hok, rfl⟩ := h
  rw [List.append_assoc, List.append_assoc] at hH ⊢
  exact left_raw hlv (by rw [List.length_map] at hl; exact hl) hok hsz hH
/-- One piece is pushed. -/
theorem q_push1 {sn db n : Nat} {un tr : Int} (h : Qr F es nx D L) (hn : 1 ≤ n ∧ n ≤ 1000000) (hfit : es.length + 1 ≤ 1024) (hnx : 0 ≤ nx ∧ nx < 4294967296) (hH : Hs H (L ++ (D ++ (([(sn, some (.cells (cxRow (zc n) 0 (.sl (some (db, 0)) n n 0)) true))] ++ [(db, some (.cells (bcells (List.replicate n 0)) true))]) ++ R)))) :
    Ev tabA spA (.fn (.func 12) [] []) [.p (some (F, 0)), .sl (some (sn, 0)) 1 1 0, .i .i64 un, .i .i64 tr] H (fun r H' => ∃ L' D' m, r = .i .i64 0 ∧ Qr F (es ++ [⟨zc n, w32 nx, 0, 0, 0, 0⟩]) (w32 (nx + 1)) D' L' ∧ Hs H' (L' ++ ([(m, some (.cells [.i .i64 un, .i .i64 tr, .b false] true))] ++ (D' ++ R)))) := by
  have hrl : (List.replicate n (0 : UInt8)).length = n := List.length_replicate
  refine Ev.mono (q_push (rows := [cxRow (zc n) 0 (.sl (some (db, 0)) n n 0)]) (cs := [(zc n, 0)]) h (fun H' hh => ?_) ⟨rfl, fun i x hx => ?_⟩ (fun c hc => ?_) Nat.one_pos hfit (fun c hc => ?_) hnx hH) fun r H2 hq => ?_
  · have hs : Sq 12 (.sl (some (sn, 0)) 1 1 0) (cxRow (zc n) 0 (.sl (some (db, 0)) n n 0)) [cxRow (zc n) 0 (.sl (some (db, 0)) n n 0)].flatten := Sq.full (.inl rfl) rfl
    exact hs.rd (R := [(db, some (.cells (bcells (List.replicate n 0)) true))]) hh (fun r hr => by rw [List.mem_singleton.1 hr]; rfl) (by decide)
  · have hi := (List.getElem?_eq_some_iff.1 hx).1
    have h0 : i = 0 := by simp only [List.length_cons, List.length_nil] at hi; omega
    subst h0
    simp only [List.getElem?_cons_zero, Option.some.injEq] at hx
    subst hx
    refine ⟨.sl (some (db, 0)) n n 0, rfl, some (db, 0), n, 0, by show _ = AV.sl _ (List.replicate n 0).length _ _; rw [hrl], .inl rfl, by show (List.replicate n (0 : UInt8)).length ≤ n; rw [hrl]; exact Nat.le_refl _, by omega, fun H' hh => ?_⟩
    have hq : Sq 1 (.sl (some (db, 0)) (List.replicate n (0 : UInt8)).length (List.replicate n (0 : UInt8)).length 0) (bcells (List.replicate n 0)) (bcells (List.replicate n 0)) := Sq.full (.inl rfl) ((bcells_len _).trans (Nat.mul_one _).symm)
    have hb := Sq.bs (R := []) hq (by rw [List.append_nil]; exact hh.sub)
    rw [hrl] at hb ⊢
    exact hb
  · rw [List.mem_singleton.1 hc]; exact ⟨rfl, by show 0 < (List.replicate n (0 : UInt8)).length; rw [hrl]; omega⟩
  · rw [List.mem_singleton.1 hc]; show (List.replicate n (0 : UInt8)).length ≤ _; rw [hrl]; omega
  · obtain ⟨L2, D2, m, rfl, h2, _, hh⟩ := hq
    exact ⟨L2, D2, m, rfl, h2, hh.sub3⟩
end
/-! ### Pieces, one behind another -/
def mkE : Int → List Nat → List Ea
  | _, [] => []
  | a, n :: l => ⟨zc n, w32 a, 0, 0, 0, 0⟩ :: mkE (a + 1) l
theorem mkE_len : ∀ {a : Int} {l : List Nat}, (mkE a l).length = l.length
  | a, [] => rfl
  | a, n :: l => by show (mkE (a + 1) l).length + 1 = _; rw [mkE_len]; rfl
theorem mkE_snoc {n : Nat} : ∀ {a : Int} {l : List Nat}, mkE a (l ++ [n]) = mkE a l ++ [⟨zc n, w32 (a + ((l.length : Nat) : Int)), 0, 0, 0, 0⟩]
  | a, [] => by show [_] = [_]; rw [show a + ((([] : List Nat).length : Nat) : Int) = a from Int.add_zero a]
  | a, x :: l => by
    show _ :: mkE (a + 1) (l ++ [n]) = _ :: (mkE (a + 1) l ++ _)
    rw [mkE_snoc]
    congr 5
    simp only [List.length_cons]; omega
theorem mkE_get {n : Nat} : ∀ {a : Int} {l : List Nat} {i : Nat}, l[i]? = some n → (mkE a l)[i]? = some ⟨zc n, w32 (a + ((i : Nat) : Int)), 0, 0, 0, 0⟩
  | a, [], i, h => by simp at h
  | a, x :: l, 0, h => by
    simp only [List.getElem?_cons_zero, Option.some.injEq] at h
    subst h
    show some _ = some _
    rw [show a + ((0 : Nat) : Int) = a from Int.add_zero a]
  | a, x :: l, i + 1, h => by
    show (mkE (a + 1) l)[i]? = _
    rw [mkE_get (n := n) (by simpa using h)]
    congr 3; omega
theorem mkE_all {P : Ea → Prop} : ∀ {a : Int} {l : List Nat}, (∀ n ∈ l, ∀ b, P ⟨zc n, b, 0, 0, 0, 0⟩) → ∀ e ∈ mkE a l, P e
  | a, [], _, e, h => by cases h
  | a, n :: l, hP, e, h => by
    rcases List.mem_cons.1 h with rfl | h
    · exact hP n (List.mem_cons_self ..) _
    · exact mkE_all (fun m hm => hP m (List.mem_cons_of_mem _ hm)) e h
def tot : List Ea → Nat
  | [] => 0
  | e :: l => e.c.d.length + tot l
theorem tot_app {l2 : List Ea} : ∀ {l1 : List Ea}, tot (l1 ++ l2) = tot l1 + tot l2
  | [] => (Nat.zero_add _).symm
  | e :: l => by show _ + tot (l ++ l2) = _ + tot l + _; rw [tot_app, Nat.add_assoc]
theorem tot_mkE : ∀ {a : Int} {l : List Nat}, tot (mkE a l) = l.sum
  | a, [] => rfl
  | a, n :: l => by show (List.replicate n (0 : UInt8)).length + tot (mkE (a + 1) l) = _; rw [List.length_replicate, tot_mkE, List.sum_cons]
theorem octs_in {ss : List Int} : ∀ {l : List Ea}, (∀ e ∈ l, e.st ∈ ss) → octs ss l = tot l
  | [], _ => rfl
  | e :: l, h => by
    show (if e.st ∈ ss then _ else 0) + octs ss l = _ + tot l
    rw [if_pos (h e (List.mem_cons_self ..)), octs_in fun x hx => h x (List.mem_cons_of_mem _ hx)]
theorem octs_out {ss : List Int} : ∀ {l : List Ea}, (∀ e ∈ l, e.st ∉ ss) → octs ss l = 0
  | [], _ => rfl
  | e :: l, h => by
    show (if e.st ∈ ss then _ else 0) + octs ss l = 0
    rw [if_neg (h e (List.mem_cons_self ..)), octs_out fun x hx => h x (List.mem_cons_of_mem _ hx)]
theorem tot_fly {now : Int} : ∀ {l : List Ea}, tot (l.map (Ea.fly now)) = tot l
  | [] => rfl
  | e :: l => by show e.c.d.length + tot (l.map (Ea.fly now)) = _; rw [tot_fly]; rfl
theorem takeL_none {s now : Int} : ∀ {l : List Ea} {r : Int}, (∀ e ∈ l, ¬ e.st = s) → takeL s now l r = (l, [], r, false)
  | [], r, _ => rfl
  | e :: l, r, h => by rw [takeL_ne (h e (List.mem_cons_self ..)), takeL_none fun x hx => h x (List.mem_cons_of_mem _ hx)]
/-- All wait: the first ones are sent, as many as there is room for. -/
theorem takeL_wait {s now : Int} : ∀ {l : List Ea} {r : Int}, (∀ e ∈ l, e.st = s) → ∃ m, m ≤ l.length ∧ (takeL s now l r).1 = (l.take m).map (Ea.fly now) ++ l.drop m ∧ (takeL s now l r).2.1 = l.take m ∧ (m = 0 ∨ ((tot (l.take m) : Nat) : Int) ≤ r) ∧ (∀ e, l[m]? = some e → r < ((tot (l.take m) : Nat) : Int) + ((e.c.d.length : Nat) : Int))
  | [], r, _ => ⟨0, Nat.le_refl _, rfl, rfl, .inl rfl, fun e h => by simp at h⟩
  | x :: l, r, h => by
    have hx := h x (List.mem_cons_self ..)
    by_cases hr : r < (x.c.d.length : Int)
    · rw [takeL_full hx hr]
      refine ⟨0, Nat.zero_le _, rfl, rfl, .inl rfl, fun e he => ?_⟩
      simp only [List.getElem?_cons_zero, Option.some.injEq] at he
      subst he
      show r < ((0 : Nat) : Int) + _; omega
    · rw [takeL_fit hx hr]
      obtain ⟨m, h1, h2, h3, h4, h5⟩ := takeL_wait (s := s) (now := now) (l := l) (r := r - x.c.d.length) fun y hy => h y (List.mem_cons_of_mem _ hy)
      refine ⟨m + 1, Nat.succ_le_succ h1, ?_, ?_, ?_, fun e he => ?_⟩
      · show _ :: _ = _ ; rw [h2]; rfl
      · show _ :: _ = _; rw [h3]; rfl
      · right
        show (((x.c.d.length + tot (l.take m) : Nat)) : Int) ≤ r
        rcases h4 with rfl | h4
        · rw [List.take_zero]; show (((x.c.d.length + 0 : Nat)) : Int) ≤ r; omega
        · omega
      · have := h5 e (by simpa using he)
        show r < (((x.c.d.length + tot (l.take m) : Nat)) : Int) + _
        omega
theorem take2_wait {now room : Int} {es : List Ea} (h : ∀ e ∈ es, e.st = 0) : ∃ m, m ≤ es.length ∧ (take2 now es room).1 = (es.take m).map (Ea.fly now) ++ es.drop m ∧ (take2 now es room).2 = es.take m ∧ (m = 0 ∨ ((tot (es.take m) : Nat) : Int) ≤ room) ∧ (∀ e, es[m]? = some e → room < ((tot (es.take m) : Nat) : Int) + ((e.c.d.length : Nat) : Int)) := by
  obtain ⟨m, h1, h2, h3, h4, h5⟩ := takeL_wait (now := now) (r := room) h
  have hn : takeL 2 now es room = (es, [], room, false) := takeL_none fun e he => by rw [h e he]; decide
  have e : take2 now es room = ((takeL 0 now es room).1, (takeL 0 now es room).2.1) := by unfold take2; rw [hn]; rfl
  rw [e]
  exact ⟨m, h1, h2, h3, h4, h5⟩
def msk (x : Int) : Nat := (BitVec.ofInt 64 x &&& BitVec.ofInt 64 1023).toNat
theorem msk_wrap (x : Int) : IntKind.i64.wrap ((msk x : Nat) : Int) = ((msk x : Nat) : Int) ∧ msk x ≤ 1023 := by
  have h := and_mask (n := 64) x 1023 (by omega)
  have h2 : msk x ≤ 1023 := Int.ofNat_le.1 h.2
  exact ⟨wrap_i64 (by omega) (by omega), h2⟩
def szf (x : Int) : Nat := 1 + msk x
theorem szf_r (x : Int) : 1 ≤ szf x ∧ szf x ≤ 1024 := by have := (msk_wrap x).2; unfold szf; omega
theorem ints_ex {k : IntKind} : ∀ {rows : List (List AV)}, (∀ (i : Nat) (r : List AV), rows[i]? = some r → ∃ x, r = [AV.i k x]) → ∃ l : List Int, rows = l.map fun x => [AV.i k x]
  | [], _ => ⟨[], rfl⟩
  | r :: rows, h => by
    obtain ⟨x, rfl⟩ := h 0 r rfl
    obtain ⟨l, rfl⟩ := ints_ex (rows := rows) fun i r hi => h (i + 1) r (by simpa using hi)
    exact ⟨x :: l, rfl⟩
theorem int_row {l : List Int} {k : IntKind} {i : Nat} {x : Int} (h : l[i]? = some x) : (l.map fun x => [AV.i k x])[i]? = some [.i k x] := by rw [List.getElem?_map, h]; rfl

end Go.Proofs.Ytipcacpaadgagaa.E
