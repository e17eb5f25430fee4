/- Topics: one topic, and the numbers that wait. It bears no condition. -/
import Derived.Test.YtnkpmidfefilbaaH3
namespace Go.Proofs.Ytnkpmidfefilbaa.E
set_option linter.unusedVariables false
set_option linter.unusedSimpArgs false
def cntO (n : Nat) : Option AV := if n = 0 then none else some (.i .i64 ((n : Nat) : Int))
def bd (j : Nat) : List UInt8 := [UInt8.ofNat (j % 256)]
abbrev itT (j : Nat) : It := ⟨[116], 0, ((j : Nat) : Int), false, bd j⟩
def top (js : List Nat) (att : Nat) : Nat := match js.getLast? with
  | some x => x + 1
  | none => att
theorem top_cons (j : Nat) (js : List Nat) (att : Nat) : top (j :: js) att = top js (j + 1) := by
  cases js with
  | nil => rfl
  | cons y js => unfold top; rw [List.getLast?_cons_cons]; simp [List.getLast?_cons]
theorem top_snoc (js : List Nat) (i att : Nat) : top (js ++ [i]) att = i + 1 := by unfold top; rw [List.getLast?_append]; rfl
theorem pw_snoc {js : List Nat} {i : Nat} (h : js.Pairwise (· < ·)) (hr : ∀ x ∈ js, x < i) : (js ++ [i]).Pairwise (· < ·) := List.pairwise_append.2 ⟨h, List.pairwise_singleton _ _, fun a hma b hb => by rw [List.mem_singleton] at hb; rw [hb]; exact hr a hma⟩
theorem hand_js {mode : Int} (hm : mode = 1 ∨ mode = 2) {room : Nat} (hroom : 1 ≤ room) {js : List Nat} {att i : Nat} {l : Int} (hp : js.Pairwise (· < ·)) (hr : ∀ x ∈ js, att ≤ x ∧ x < i) (ha : att ≤ i) :
    ∃ js' l' b, handT (some (mode, false)) room (js.map itT) l (itT i) = (some (mode, false), js'.map itT, l', b) ∧ js'.Pairwise (· < ·) ∧ (∀ x ∈ js', att ≤ x ∧ x < i + 1) ∧ ((js'.length : Nat) : Int) + l' = ((js.length : Nat) : Int) + l + 1 ∧ l ≤ l' ∧ l' ≤ l + 1 ∧ (mode = 2 → top js' att = i + 1) := by
  have hsn : ∀ js' : List Nat, (∀ x ∈ js', att ≤ x ∧ x < i) → ∀ x ∈ js' ++ [i], att ≤ x ∧ x < i + 1 := fun js' h x hx => by
    rcases List.mem_append.1 hx with hx | hx
    · have := h x hx; omega
    · rw [List.mem_singleton] at hx; omega
  by_cases h1 : (js.map itT).length < room
  · refine ⟨js ++ [i], l, true, by unfold handT; simp only; rw [if_pos h1, List.map_append]; rfl, pw_snoc hp fun x hx => (hr x hx).2, hsn js hr, by rw [List.length_append]; simp only [List.length_cons, List.length_nil]; omega, by omega, by omega, fun _ => top_snoc _ _ _⟩
  · rcases hm with rfl | rfl
    · refine ⟨js, l + 1, false, by unfold handT; simp only; rw [if_neg h1, if_neg (by decide)]; rfl, hp, fun x hx => ⟨(hr x hx).1, by have := (hr x hx).2; omega⟩, by omega, by omega, by omega, fun h => by omega⟩
    · cases js with
      | nil => simp at h1; omega
      | cons y js =>
        obtain ⟨h2, h3⟩ := List.pairwise_cons.1 hp
        refine ⟨js ++ [i], l + 1, true, by unfold handT; simp only; rw [if_neg h1, if_neg (by decide), if_neg (by decide), List.map_append]; rfl, pw_snoc h3 fun x hx => (hr x (List.mem_cons_of_mem _ hx)).2, hsn js fun x hx => hr x (List.mem_cons_of_mem _ hx), by rw [List.length_append]; simp only [List.length_cons, List.length_nil]; omega, by omega, by omega, fun _ => top_snoc _ _ _⟩
theorem u8_lo (i : Nat) : ((UInt8.ofNat (i % 256)).toNat : Int) = IntKind.u8.wrap ((i : Nat) : Int) := by
  rw [wrap_u8, UInt8.toNat_ofNat']; omega
theorem octs1 {H : AH} {n : Nat} {mu : Bool} {i : Nat} (h : H.get n = some (.cells [.i .u8 ((UInt8.ofNat (i % 256)).toNat : Int)] mu)) : Bs H (.sl (some (n, 0)) 1 1 0) (bd i) := Bs.mk (cap := 1) (g := 0) (l := bd i) h rfl
theorem seq_row {sq : List Int} {k : IntKind} {i : Nat} (h : i < sq.length) : (sq.map fun x => [AV.i k x])[i]? = some [.i k (sq.getD i 0)] := by
  rw [List.getElem?_map, List.getElem?_eq_getElem h, List.getD_eq_getElem?_getD, List.getElem?_eq_getElem h]; rfl
theorem ints_ex {k : IntKind} : ∀ {rows : List (List AV)}, (∀ (i : Nat) (r : List AV), rows[i]? = some r → ∃ x, r = [AV.i k x]) → ∃ l : List Int, rows = l.map fun x => [AV.i k x]
  | [], _ => ⟨[], rfl⟩
  | r :: rows, h => by
    obtain ⟨x, rfl⟩ := h 0 r rfl
    obtain ⟨l, rfl⟩ := ints_ex (rows := rows) fun i r hi => h (i + 1) r (by simpa using hi)
    exact ⟨x :: l, rfl⟩
theorem publish_ev {H : AH} {R D B : HL} {F Lb cm m0 m1 room n : Nat} {cb mb : Blk} {cmL m : ML} {v0 v : AV} {l0 lost : Int} {c : List AV} {rows : List (List AV)} {w : List It} {g : Option (Int × Bool)} {tp dd : List UInt8} {tx : Bool} {da : Option (Nat × Nat)} {dc dg : Nat} (hcb : Mb cmL cb) (hcg : mget cmL tp = cntO n) (hn : n < 1000000) (htp : 0 < tp.length ∧ tp.length ≤ 256) (hdl : dd.length ≤ 16384) (hdg : dg = 0 ∨ dg = 1) (hdc : dd.length ≤ dc) (hdm : dc ≤ 9223372036854775807) (hdb : ∀ H', Hs H' B → Bs H' (.sl da dd.length dc dg) dd) (hsq : Sq 5 v c rows.flatten) (hir : ItsR D rows w) (hmb : Mb m mb) (hg : mget m tp = subO g) (hmode : ∀ mode f, g = some (mode, f) → 0 ≤ mode ∧ mode ≤ 2) (htpw : ∀ y ∈ w, y.tp = tp) (hroom : 1 ≤ room) (hlost : 0 ≤ lost ∧ lost < 4611686018427387904) (hww : w.length ≤ 1000000) (hH0 : Hs H ([(F, some (.cells [.sl (some (Lb, 0)) 3 3 0, .i .i64 ((room : Nat) : Int), .m (some cm)] true))] ++ ([(Lb, some (.cells ([(prow true (some m0) v0 l0), (prow true (some m1) v lost), zrow] : List (List AV)).flatten true))] ++ ([(cm, some cb)] ++ ([(m1, some mb)] ++ (qseg v c ++ (D ++ (B ++ R)))))))) :
    Ev tabA spA (.fn (.func 13) [] []) [.p (some (F, 0)), .i .i64 0, .s (txt tp), .b tx, .sl da dd.length dc dg] H (fun r H' => ∃ D' cb2 mb2 m2 cmL2 v2 c2 rows2, r = .tup [.i .i64 (if (handT g room w lost ⟨tp, 0, ((n : Nat) : Int), tx, dd⟩).2.2.2 then 1 else 0), .i .i64 0] ∧ (∀ H', Hs H' D' → Hs H' D) ∧ Mb cmL2 cb2 ∧ mget cmL2 tp = cntO (n + 1) ∧ Mb m2 mb2 ∧ mget m2 tp = subO (handT g room w lost ⟨tp, 0, ((n : Nat) : Int), tx, dd⟩).1 ∧ Sq 5 v2 c2 rows2.flatten ∧ ItsR D' rows2 (handT g room w lost ⟨tp, 0, ((n : Nat) : Int), tx, dd⟩).2.1 ∧ Hs H' ([(F, some (.cells [.sl (some (Lb, 0)) 3 3 0, .i .i64 ((room : Nat) : Int), .m (some cm)] true))] ++ ([(Lb, some (.cells ([(prow true (some m0) v0 l0), (prow true (some m1) v2 (handT g room w lost ⟨tp, 0, ((n : Nat) : Int), tx, dd⟩).2.2.1), zrow] : List (List AV)).flatten true))] ++ ([(cm, some cb2)] ++ ([(m1, some mb2)] ++ (qseg v2 c2 ++ (D' ++ (B ++ R)))))))) := by
  by_cases h0 : n = 0
  · subst h0
    refine Ev.mono (publish_none (n := 0) hcb hcg ⟨by omega, by omega⟩ htp hdl hdg hdc hdm hdb hsq hir hmb hg hmode htpw hroom hlost hww hH0) fun r H2 hq => ?_
    obtain ⟨D', cb2, mb2, m2, v2, c2, rows2, e, h1, h2, h3, h4, h5, h6, h7⟩ := hq
    exact ⟨D', cb2, mb2, m2, _, v2, c2, rows2, e, h1, h2, by rw [mget_set, if_pos rfl]; rfl, h3, h4, h5, h6, h7⟩
  · have hc : mget cmL tp = some (.i .i64 ((n : Nat) : Int)) := by rw [hcg]; unfold cntO; rw [if_neg h0]
    refine Ev.mono (publish_some (n := ((n : Nat) : Int)) hcb hc ⟨by omega, by omega⟩ htp hdl hdg hdc hdm hdb hsq hir hmb hg hmode htpw hroom hlost hww hH0) fun r H2 hq => ?_
    obtain ⟨D', cb2, mb2, m2, v2, c2, rows2, e, h1, h2, h3, h4, h5, h6, h7⟩ := hq
    exact ⟨D', cb2, mb2, m2, _, v2, c2, rows2, e, h1, h2, by rw [mget_set, if_pos rfl]; unfold cntO; rw [if_neg (by omega)]; rfl, h3, h4, h5, h6, h7⟩

end Go.Proofs.Ytnkpmidfefilbaa.E
