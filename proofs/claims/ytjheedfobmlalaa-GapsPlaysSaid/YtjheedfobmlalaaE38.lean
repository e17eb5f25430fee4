/- Heaps as lists of blocks, each under a name of its own; a slice's block; rows of records. It bears no condition. -/
import Derived.Test.YtjheedfobmlalaaE37
namespace Go.Proofs.Ytjheedfobmlalaa.E
set_option linter.unusedVariables false
set_option linter.unusedSimpArgs false

abbrev HL := List (Nat × Option Blk)
/-- What a heap holds: blocks, each under its own name; 'none': a name that is set aside. -/
structure Hs (H : AH) (L : HL) : Prop where
  nd : (L.map Prod.fst).Nodup
  all : ∀ p ∈ L, H.get p.1 = p.2 ∧ p.1 < H.next
  ok : H.Ok
section
variable {H H' : AH} {L L' A B R S : HL} {n : Nat} {b b' : Option Blk}
theorem Hs.perm (h : Hs H L) (p : L.Perm L') : Hs H L' := ⟨(p.map _).nodup_iff.1 h.nd, fun q hq => h.all q (p.mem_iff.2 hq), h.ok⟩
theorem Hs.sub (h : Hs H (A ++ B)) : Hs H B := ⟨by have := h.nd; rw [List.map_append, List.nodup_append] at this; exact this.2.1, fun q hq => h.all q (List.mem_append.2 (.inr hq)), h.ok⟩
theorem Hs.assoc (h : Hs H ((A ++ B) ++ R)) : Hs H (A ++ (B ++ R)) := by rw [List.append_assoc] at h; exact h
theorem Hs.unassoc (h : Hs H (A ++ (B ++ R))) : Hs H ((A ++ B) ++ R) := by rw [List.append_assoc]; exact h
theorem Hs.cong (h : Hs H (A ++ R)) (e : A = B) : Hs H (B ++ R) := e ▸ h
theorem Hs.get (h : Hs H ([(n, b)] ++ R)) : H.get n = b := (h.all (n, b) (by simp)).1
theorem Hs.mem (h : Hs H (S ++ R)) {m : Nat} {c : Option Blk} (hm : (m, c) ∈ S) : H.get m = c := (h.all (m, c) (List.mem_append.2 (.inl hm))).1
theorem Hs.keep (h : Hs H L) (hn : H.next ≤ H'.next) (hk : ∀ q, q < H.next → H'.get q = H.get q) (ho : H'.Ok) : Hs H' L :=
  ⟨h.nd, fun p hp => ⟨by rw [hk _ (h.all p hp).2]; exact (h.all p hp).1, Nat.lt_of_lt_of_le (h.all p hp).2 hn⟩, ho⟩
theorem Hs.old (h : Hs H L) : Kp H H := Old.refl h.ok
theorem Hs.new {c : Blk} (h : Hs H L) (k : New H n c H') : Hs H' ([(n, some c)] ++ L) := by
  have ho := (h.old.new k)
  obtain ⟨k1, k2, k3, k4⟩ := k
  have h2 := h.keep (H' := H') (by omega) (fun q hq => k4 q (by omega)) ho.ok
  refine ⟨?_, fun p hp => ?_, ho.ok⟩
  · rw [List.map_append, List.map_cons, List.map_nil, List.singleton_append, List.nodup_cons]
    refine ⟨fun hm => ?_, h.nd⟩
    obtain ⟨p, hp, e⟩ := List.mem_map.1 hm
    have := (h.all p hp).2
    omega
  · rcases List.mem_append.1 hp with hp | hp
    · rw [List.mem_singleton] at hp; subst hp; exact ⟨k3, by simp only; omega⟩
    · exact h2.all p hp
theorem Hs.dis (h : Hs H ([(n, b)] ++ R)) : ∀ p ∈ R, p.1 ≠ n := fun p hp e => by
  have := h.nd
  rw [List.map_append, List.map_cons, List.map_nil, List.singleton_append, List.nodup_cons] at this
  exact this.1 (List.mem_map.2 ⟨p, hp, e⟩)
theorem Hs.turn (h : Hs H ([(n, b)] ++ R)) (hn : H.next ≤ H'.next) (hk : ∀ m, m < H.next → m ≠ n → H'.get m = H.get m) (hb : H'.get n = b') (ho : H'.Ok) : Hs H' ([(n, b')] ++ R) := by
  have hlt := (h.all (n, b) (by simp)).2
  refine ⟨h.nd, fun p hp => ?_, ho⟩
  rcases List.mem_append.1 hp with hp | hp
  · rw [List.mem_singleton] at hp; subst hp; exact ⟨hb, by simp only at hlt ⊢; omega⟩
  · have h1 := h.all p (List.mem_append.2 (.inr hp))
    exact ⟨by rw [hk _ h1.2 (h.dis p hp)]; exact h1.1, by omega⟩
theorem Hs.wr {c : Blk} (h : Hs H ([(n, b)] ++ R)) (k : Wr H n c H') : Hs H' ([(n, some c)] ++ R) := by
  have hlt := (h.all (n, b) (by simp)).2
  refine h.turn (by rw [k.1]; exact Nat.le_refl _) (fun m _ hm => k.2.2 m hm) k.2.1 fun q b' hq => ?_
  rw [k.1]
  by_cases e : q = n
  · subst e; exact hlt
  · rw [k.2.2 q e] at hq; exact h.ok q b' hq
theorem Hs.drp (h : Hs H ([(n, b)] ++ R)) (k : Drp H n H') : Hs H' R := by
  refine Hs.sub (A := [(n, none)]) (h.turn (by rw [k.1]; exact Nat.le_refl _) (fun m _ hm => k.2.2 m hm) k.2.1 fun q b' hq => ?_)
  rw [k.1]
  by_cases e : q = n
  · subst e; rw [k.2.1] at hq; cases hq
  · rw [k.2.2 q e] at hq; exact h.ok q b' hq
theorem Hs.but (h : Hs H ([(n, b)] ++ R)) (k : But n H H') : Hs H' R := by
  have h2 : Hs H R := h.sub
  refine ⟨h2.nd, fun p hp => ?_, k.ok⟩
  have h1 := h2.all p hp
  exact ⟨by rw [k.keep _ h1.2 (h.dis p hp)]; exact h1.1, Nat.lt_of_lt_of_le h1.2 k.next⟩
/-- Names that are set aside, some of which are told. -/
def asideL (b : Nat) (ixs : List Nat) : HL := ixs.map fun i => (b + i, none)
theorem Hs.aside {m b0 : Nat} (h : Hs H L) (k : Aside H m H') (ixs : List Nat) (hb : b0 = H.next) (h1 : (ixs.all fun i => decide (i < m)) = true) (h2 : ixs.Nodup) : Hs H' (asideL b0 ixs ++ L) := by
  subst hb
  have ho := h.old.aside k
  have hk := h.keep (H' := H') ho.next ho.keep ho.ok
  refine ⟨?_, fun p hp => ?_, ho.ok⟩
  · rw [List.map_append, List.nodup_append]
    refine ⟨?_, h.nd, fun x hx y hy e => ?_⟩
    · have e : (asideL H.next ixs).map Prod.fst = ixs.map fun i => H.next + i := by simp [asideL, List.map_map, Function.comp_def]
      rw [e]
      refine List.Pairwise.map (R := (· ≠ ·)) (S := (· ≠ ·)) _ (fun a c hac e => hac (by omega)) h2
    · subst e
      obtain ⟨p, hp, rfl⟩ := List.mem_map.1 hx
      obtain ⟨i, _, rfl⟩ := List.mem_map.1 hp
      obtain ⟨q, hq, e⟩ := List.mem_map.1 hy
      have := (h.all q hq).2
      simp only at e
      omega
  · rcases List.mem_append.1 hp with hp | hp
    · obtain ⟨i, hi, rfl⟩ := List.mem_map.1 hp
      have h3 := of_decide_eq_true (List.all_eq_true.1 h1 i hi)
      refine ⟨?_, by simp only; rw [k.1]; omega⟩
      rw [k.2]
      cases hg : H.get (H.next + i) with
      | none => rfl
      | some c => have := h.ok _ _ hg; omega
    · exact hk.all p hp

theorem Hs.top1 {s0 : HL} (h : Hs H (s0 ++ (S ++ (R)))) : Hs H (S ++ (s0 ++ (R))) := by
  refine h.perm ?_
  have := List.perm_append_comm_assoc s0 S R
  simpa only [List.append_assoc] using this
theorem Hs.bot1 {s0 : HL} (h : Hs H (S ++ (s0 ++ (R)))) : Hs H (s0 ++ (S ++ (R))) := by
  refine h.perm ?_
  have := List.perm_append_comm_assoc S s0 R
  simpa only [List.append_assoc] using this
theorem Hs.get1 {s0 : HL} (h : Hs H (s0 ++ ([(n, b)] ++ (R)))) : H.get n = b := h.top1.get
theorem Hs.wr1 {s0 : HL} {c : Blk} (h : Hs H (s0 ++ ([(n, b)] ++ (R)))) (k : Wr H n c H') : Hs H' (s0 ++ ([(n, some c)] ++ (R))) := (h.top1.wr k).bot1
theorem Hs.sub1 {s0 : HL} (h : Hs H (s0 ++ (S ++ (R)))) : Hs H (s0 ++ (R)) := h.top1.sub
theorem Hs.cong1 {s0 : HL} (h : Hs H (s0 ++ (A ++ (R)))) (e : A = B) : Hs H (s0 ++ (B ++ (R))) := e ▸ h
theorem Hs.assoc1 {s0 : HL} (h : Hs H (s0 ++ ((A ++ B) ++ (R)))) : Hs H (s0 ++ (A ++ (B ++ (R)))) := by rw [List.append_assoc] at h; exact h
theorem Hs.top2 {s0 s1 : HL} (h : Hs H (s0 ++ (s1 ++ (S ++ (R))))) : Hs H (S ++ (s0 ++ (s1 ++ (R)))) := by
  refine h.perm ?_
  have := List.perm_append_comm_assoc (s0 ++ s1) S R
  simpa only [List.append_assoc] using this
theorem Hs.bot2 {s0 s1 : HL} (h : Hs H (S ++ (s0 ++ (s1 ++ (R))))) : Hs H (s0 ++ (s1 ++ (S ++ (R)))) := by
  refine h.perm ?_
  have := List.perm_append_comm_assoc S (s0 ++ s1) R
  simpa only [List.append_assoc] using this
theorem Hs.get2 {s0 s1 : HL} (h : Hs H (s0 ++ (s1 ++ ([(n, b)] ++ (R))))) : H.get n = b := h.top2.get
theorem Hs.wr2 {s0 s1 : HL} {c : Blk} (h : Hs H (s0 ++ (s1 ++ ([(n, b)] ++ (R))))) (k : Wr H n c H') : Hs H' (s0 ++ (s1 ++ ([(n, some c)] ++ (R)))) := (h.top2.wr k).bot2
theorem Hs.sub2 {s0 s1 : HL} (h : Hs H (s0 ++ (s1 ++ (S ++ (R))))) : Hs H (s0 ++ (s1 ++ (R))) := h.top2.sub
theorem Hs.top3 {s0 s1 s2 : HL} (h : Hs H (s0 ++ (s1 ++ (s2 ++ (S ++ (R)))))) : Hs H (S ++ (s0 ++ (s1 ++ (s2 ++ (R))))) := by
  refine h.perm ?_
  have := List.perm_append_comm_assoc (s0 ++ s1 ++ s2) S R
  simpa only [List.append_assoc] using this
theorem Hs.get3 {s0 s1 s2 : HL} (h : Hs H (s0 ++ (s1 ++ (s2 ++ ([(n, b)] ++ (R)))))) : H.get n = b := h.top3.get
theorem Hs.top4 {s0 s1 s2 s3 : HL} (h : Hs H (s0 ++ (s1 ++ (s2 ++ (s3 ++ (S ++ (R))))))) : Hs H (S ++ (s0 ++ (s1 ++ (s2 ++ (s3 ++ (R)))))) := by
  refine h.perm ?_
  have := List.perm_append_comm_assoc (s0 ++ s1 ++ s2 ++ s3) S R
  simpa only [List.append_assoc] using this
theorem Hs.sub4 {s0 s1 s2 s3 : HL} (h : Hs H (s0 ++ (s1 ++ (s2 ++ (s3 ++ (S ++ (R))))))) : Hs H (s0 ++ (s1 ++ (s2 ++ (s3 ++ (R))))) := h.top4.sub
theorem Hs.top5 {s0 s1 s2 s3 s4 : HL} (h : Hs H (s0 ++ (s1 ++ (s2 ++ (s3 ++ (s4 ++ (S ++ (R)))))))) : Hs H (S ++ (s0 ++ (s1 ++ (s2 ++ (s3 ++ (s4 ++ (R))))))) := by
  refine h.perm ?_
  have := List.perm_append_comm_assoc (s0 ++ s1 ++ s2 ++ s3 ++ s4) S R
  simpa only [List.append_assoc] using this
theorem Hs.top0 (h : Hs H (S ++ R)) : Hs H (S ++ R) := h
theorem Hs.get0 (h : Hs H ([(n, b)] ++ R)) : H.get n = b := h.get
theorem Hs.wr0 {c : Blk} (h : Hs H ([(n, b)] ++ R)) (k : Wr H n c H') : Hs H' ([(n, some c)] ++ R) := h.wr k
theorem Hs.sub0 (h : Hs H (S ++ R)) : Hs H R := h.sub
theorem Hs.cong0 (h : Hs H (A ++ R)) (e : A = B) : Hs H (B ++ R) := h.cong e
end

/-! ### Slices that are written: the block's cells 'c', the slice's own 'l' -/
inductive Sq (sz : Nat) : AV → List AV → List AV → Prop where
  | nil : Sq sz (.sl none 0 0 0) [] []
  | mk {b o n cap g : Nat} {c l : List AV} (hg : g = 0 ∨ g = sz) (hl : takeAt c o (n * sz) = some l) (hn : n ≤ cap) (hc : o + cap * sz ≤ c.length) : Sq sz (.sl (some (b, o)) n cap g) c l
def qseg : AV → List AV → HL
  | .sl (some (b, _)) _ _ _, c => [(b, some (.cells c true))]
  | _, _ => []
theorem qseg_sl (b o n cap g : Nat) (c : List AV) : qseg (.sl (some (b, o)) n cap g) c = [(b, some (.cells c true))] := rfl
section
variable {sz : Nat} {v : AV} {c l : List AV} {H H' : AH} {R L : HL}
theorem Sq.len (h : Sq sz v c l) : ∃ n, lenOfA v = some n ∧ l.length = n * sz := by
  cases h with
  | nil => exact ⟨0, rfl, by simp⟩
  | mk hg hl hn hc => exact ⟨_, rfl, (takeAt_len hl).1⟩
theorem Sq.lenOf (h : Sq sz v c l) {n : Nat} (hn : l.length = n * sz) (hsz : 0 < sz) : lenOfA v = some n := by
  obtain ⟨m, h1, h2⟩ := h.len
  rw [h1, Nat.eq_of_mul_eq_mul_right hsz (h2.symm.trans hn)]
theorem Sq.isSl (h : Sq sz v c l) : ∃ a len cap g, v = .sl a len cap g := by cases h <;> exact ⟨_, _, _, _, rfl⟩
/-- A slice that is not empty. -/
theorem Sq.open (h : Sq sz v c l) {n : Nat} (hn : l.length = n * sz) (hsz : 0 < sz) (h0 : 0 < n) : ∃ b o cap g, v = .sl (some (b, o)) n cap g ∧ (g = 0 ∨ g = sz) ∧ takeAt c o (n * sz) = some l ∧ n ≤ cap ∧ o + cap * sz ≤ c.length := by
  cases h with
  | nil =>
    have : n * sz = 0 := by simpa using hn.symm
    rcases Nat.mul_eq_zero.1 this with h | h <;> omega
  | @mk b o m cap g c l hg hl hn' hc =>
    have e : m = n := Nat.eq_of_mul_eq_mul_right hsz ((takeAt_len hl).1.symm.trans hn)
    subst e
    exact ⟨b, o, cap, g, rfl, hg, hl, hn', hc⟩
theorem Sq.src (h : Sq sz v c l) (hH : Hs H (qseg v c ++ R)) {n : Nat} (hn : l.length = n * sz) (hsz : 0 < sz) : XOp.src H sz n v = some l := by
  cases h with
  | nil =>
    have : n * sz = 0 := by simpa using hn.symm
    have : n = 0 := by rcases Nat.mul_eq_zero.1 this with h | h <;> omega
    subst this; rfl
  | @mk b o m cap g c l hg hl hn' hc =>
    have e : m = n := Nat.eq_of_mul_eq_mul_right hsz ((takeAt_len hl).1.symm.trans hn)
    subst e
    exact src_blk hH.get hl
theorem Sq.full {b n g : Nat} (hg : g = 0 ∨ g = sz) (hl : l.length = n * sz) : Sq sz (.sl (some (b, 0)) n n g) l l :=
  .mk hg (by rw [takeAt_ok (by omega), List.drop_zero, List.take_of_length_le (by omega)]) (Nat.le_refl _) (by omega)
theorem Sq.bs {l : List UInt8} (h : Sq 1 v c (bcells l)) (hH : Hs H (qseg v c ++ R)) : Bs H v l := by
  generalize hc : bcells l = cs at h
  cases h with
  | nil =>
    have : l = [] := by cases l with | nil => rfl | cons x l => simp [bcells] at hc
    subst this; exact .nil
  | @mk b o n cap g c l' hg hl hn hcl =>
    subst hc
    have e := (takeAt_len hl).1
    rw [bcells_len, Nat.mul_one] at e
    subst e
    rw [Nat.mul_one] at hl
    exact .mk hH.get hl
theorem putAt_take {cs vs l : List AV} {o m : Nat} (h : takeAt cs o m = some l) (hf : o + m + vs.length ≤ cs.length) : takeAt (putAt cs (o + m) vs) o (m + vs.length) = some (l ++ vs) := by
  obtain ⟨h1, h2⟩ := takeAt_len h
  unfold takeAt at h
  rw [if_pos h2] at h
  simp only [Option.some.injEq] at h
  rw [putAt_eq _ _ _ hf, takeAt_ok (by simp; omega)]
  congr 1
  rw [List.append_assoc, List.drop_append_of_le_length (by rw [List.length_take]; omega), List.drop_take]
  rw [show o + m - o = m by omega, h, List.take_append, List.take_of_length_le (by omega), h1, show m + vs.length - m = vs.length by omega, List.take_append_of_le_length (Nat.le_refl _), List.take_of_length_le (Nat.le_refl _)]
variable {T : Tm} {cf : CallF}
theorem r_appq {bytes : Nat} {s x : XO} {xv : AV} {new : List AV} {n k : Nat} (hH : Hs H (qseg v c ++ R)) (hv : Sq sz v c l) (hs : s.ev T = v) (hx : x.ev T = xv) (hlen : lenOfA xv = some k) (hsrc : XOp.src H sz k xv = some new) (hk : new.length = k * sz) (hsz : 0 < sz) (hb0 : 0 < bytes)
    (hn : l.length = n * sz) (hfit : (n + k) * bytes ≤ 1073741824) : ∃ v' H', (XOp.append sz bytes s x).run cf T H = some (v', H') ∧ ∃ c', Sq sz v' c' (l ++ new) ∧ Hs H' (qseg v' c' ++ R) := by
  have hone : n + k ≤ 1073741824 := Nat.le_trans (Nat.le_mul_of_pos_right _ hb0) hfit
  have hnew : ∀ cs, New H H.next (.cells cs true) (H.alloc (.cells cs true)) := fun cs => ⟨rfl, rfl, AH.alloc_new _ _, fun m h => by rw [AH.get_alloc, if_neg (Ne.symm h)]⟩
  have hll : (l ++ new).length = (n + k) * sz := by rw [List.length_append, hn, hk, Nat.add_mul]
  have hsrc2 := hv.src hH hn hsz
  cases hv with
  | nil =>
    have n0 : n = 0 := by
      simp only [List.length_nil] at hn
      rcases Nat.mul_eq_zero.1 hn.symm with h | h
      · exact h
      · omega
    subst n0
    by_cases k0 : k = 0
    · subst k0
      have : new = [] := List.eq_nil_of_length_eq_zero (by omega)
      subst this
      refine ⟨.sl none 0 0 0, H, ?_, [], .nil, hH⟩
      simp only [XOp.run, XOp.turn, hs, hx, hlen, hsrc, Nat.le_refl, Nat.add_zero, if_true]
    · refine ⟨.sl (some (H.next, 0)) (0 + k) (0 + k) sz, H.alloc (.cells ([] ++ new) true), ?_, _, .full (.inr rfl) hll, hH.new (hnew _)⟩
      have hc : ¬ 0 + k ≤ 0 := by omega
      simp only [XOp.run, XOp.turn, hs, hx, hlen, hsrc, if_neg hc, if_pos (And.intro hfit hone), hsrc2, if_true]
  | @mk b o m cap g c l hg hl hm hc =>
    have e : m = n := Nat.eq_of_mul_eq_mul_right hsz ((takeAt_len hl).1.symm.trans hn)
    subst e
    rw [qseg_sl] at hH
    by_cases hcap : m + k ≤ cap
    · have hwl : o + m * sz + new.length ≤ c.length := by
        rw [hk]
        have := Nat.mul_le_mul_right sz hcap
        rw [Nat.add_mul] at this
        omega
      by_cases h0 : new = []
      · subst h0
        have : k = 0 := by
          rcases Nat.mul_eq_zero.1 hk.symm with h | h
          · exact h
          · omega
        subst this
        refine ⟨.sl (some (b, o)) m cap g, H, ?_, c, ?_, hH⟩
        · have hcap' : m ≤ cap := hm
          simp only [XOp.run, XOp.turn, hs, hx, hlen, hsrc, Nat.add_zero, if_pos hcap', AH.write, if_true, Option.map_some]
        · rw [List.append_nil]; exact .mk hg hl hm hc
      · refine ⟨.sl (some (b, o)) (m + k) cap g, H.set b (.cells (putAt c (o + m * sz) new) true), ?_, putAt c (o + m * sz) new, .mk hg ?_ hcap ?_, hH.wr ⟨rfl, AH.set_same _ _ _, fun n h => AH.set_other _ _ (Ne.symm h)⟩⟩
        · simp only [XOp.run, XOp.turn, hs, hx, hlen, hsrc, if_pos hcap, AH.write, if_neg h0, hH.get, if_pos hwl, Option.map_some]
        · rw [Nat.add_mul, ← hk]; exact putAt_take hl hwl
        · rw [putAt_len]; exact hc
    · by_cases hg0 : g = 0
      · subst hg0
        refine ⟨.sl (some (H.next, 0)) (m + k) (m + k) sz, H.alloc (.cells (l ++ new) true), ?_, _, .full (.inr rfl) hll, (hH.sub).new ?_⟩
        · simp only [XOp.run, XOp.turn, hs, hx, hlen, hsrc, if_neg hcap, if_pos (And.intro hfit hone), hsrc2, if_true]
        · exact hnew _
      · have hgs : g = sz := by rcases hg with h | h; exact absurd h hg0; exact h
        subst hgs
        refine ⟨.sl (some (H.next, 0)) (m + k) (m + k) g, (H.alloc (.cells (l ++ new) true)).drop b, ?_, _, .full (.inr rfl) hll, ?_⟩
        · simp only [XOp.run, XOp.turn, hs, hx, hlen, hsrc, if_neg hcap, if_pos (And.intro hfit hone), hsrc2, if_neg hg0, if_true, hH.get]
        · have h1 := hH.new (hnew (l ++ new))
          exact Hs.top1 (H := (H.alloc (.cells (l ++ new) true)).drop b) (s0 := []) ((h1.top1).drp (H' := (H.alloc (.cells (l ++ new) true)).drop b) ⟨rfl, by rw [AH.get_drop, if_pos rfl], fun m hm => AH.drop_other _ (Ne.symm hm)⟩)
end

/-! ### Rows of records in one block -/
section
variable {R : List (List AV)} {r r' vs : List AV} {i j sz n : Nat}
theorem flat_len (h : ∀ x ∈ R, x.length = sz) : R.flatten.length = R.length * sz := by
  induction R with
  | nil => simp
  | cons x R ih =>
    rw [List.flatten_cons, List.length_append, h x (List.mem_cons_self ..), ih fun y hy => h y (List.mem_cons_of_mem _ hy), List.length_cons, Nat.add_mul]; omega
theorem rows_foc (h : R[i]? = some r) : R = R.set i r := by
  obtain ⟨hi, rfl⟩ := List.getElem?_eq_some_iff.1 h
  rw [List.set_getElem_self]
theorem flat_split (h : ∀ x ∈ R, x.length = sz) (hi : i < R.length) : (R.set i r).flatten = (R.take i).flatten ++ (r ++ (R.drop (i + 1)).flatten) ∧ (R.take i).flatten.length = i * sz := by
  refine ⟨?_, ?_⟩
  · rw [List.set_eq_take_append_cons_drop, if_pos hi, List.flatten_append, List.flatten_cons]
  · rw [flat_len (sz := sz) fun x hx => h x (List.mem_of_mem_take hx), List.length_take, Nat.min_eq_left (by omega)]
theorem foc_take (h : ∀ x ∈ R, x.length = sz) (hi : i < R.length) (hr : r.length = sz) (hj : j + n ≤ sz) : takeAt (R.set i r).flatten (i * sz + j) n = takeAt r j n := by
  obtain ⟨e1, e2⟩ := flat_split (r := r) h hi
  rw [takeAt_ok (cs := r) (by rw [hr]; exact hj), takeAt_ok (cs := (R.set i r).flatten) (by rw [e1, List.length_append, List.length_append, e2]; omega), e1, List.drop_append, List.drop_of_length_le (by omega), List.nil_append, e2, show i * sz + j - i * sz = j by omega, List.drop_append_of_le_length (by omega), List.take_append_of_le_length (by rw [List.length_drop]; omega)]
theorem foc_put (h : ∀ x ∈ R, x.length = sz) (hi : i < R.length) (hr : r.length = sz) (hj : j + vs.length ≤ sz) (he : putAt r j vs = r') : putAt (R.set i r).flatten (i * sz + j) vs = (R.set i r').flatten := by
  obtain ⟨e1, e2⟩ := flat_split (r := r) h hi
  obtain ⟨e3, e4⟩ := flat_split (r := r') h hi
  subst he
  have hl : (R.set i r).flatten.length = ((R.take i).flatten ++ (r ++ (R.drop (i + 1)).flatten)).length := by rw [e1]
  simp only [List.length_append, e2] at hl
  rw [e3, putAt_eq _ _ _ (by rw [hl]; omega), putAt_eq _ _ _ (by omega), e1]
  rw [List.take_append, List.take_of_length_le (by omega), e2, show i * sz + j - i * sz = j by omega, List.take_append_of_le_length (by omega), List.drop_append, List.drop_of_length_le (by omega), List.nil_append, e2, show i * sz + j + vs.length - i * sz = j + vs.length by omega, List.drop_append_of_le_length (by omega)]
  simp only [List.append_assoc]
end

/-! ### Octets that are only read, by the list in which their block stands -/
inductive Bp (S : HL) : AV → List UInt8 → Prop where
  | nil : Bp S (.sl none 0 0 0) []
  | none {a : Option (Nat × Nat)} {cap g : Nat} : Bp S (.sl a 0 cap g) []
  | mk {b o cap g : Nat} {cs : List AV} {mu : Bool} {l : List UInt8} (hb : (b, some (.cells cs mu)) ∈ S) (hc : takeAt cs o l.length = some (bcells l)) : Bp S (.sl (some (b, o)) l.length cap g) l
theorem Bp.bs {H : AH} {S R : HL} {v : AV} {l : List UInt8} (h : Bp S v l) (hH : Hs H (S ++ R)) : Bs H v l := by
  cases h with
  | nil => exact .nil
  | none => exact .none
  | mk hb hc => exact .mk (hH.mem hb) hc
theorem Bp.mono {S S' : HL} {v : AV} {l : List UInt8} (h : Bp S v l) (hs : ∀ p ∈ S, p ∈ S') : Bp S' v l := by
  cases h with
  | nil => exact .nil
  | none => exact .none
  | mk hb hc => exact .mk (hs _ hb) hc
/-- All blocks of a heap. -/
def allL (H : AH) : HL := (List.range H.next).filterMap fun n => (H.get n).map fun b => (n, some b)
theorem allL_mem {H : AH} (ho : H.Ok) {n : Nat} {b : Blk} (h : H.get n = some b) : (n, some b) ∈ allL H :=
  List.mem_filterMap.2 ⟨n, List.mem_range.2 (ho _ _ h), by rw [h]; rfl⟩
theorem allL_hs {H : AH} (ho : H.Ok) : Hs H (allL H ++ []) := by
  rw [List.append_nil]
  refine ⟨?_, fun p hp => ?_, ho⟩
  · have key : ∀ l : List Nat, l.Nodup → ((l.filterMap fun n => (H.get n).map fun b => (n, some b)).map Prod.fst).Nodup ∧ ∀ x ∈ (l.filterMap fun n => (H.get n).map fun b => (n, some b)).map Prod.fst, x ∈ l := by
      intro l
      induction l with
      | nil => intro _; exact ⟨List.nodup_nil, by simp⟩
      | cons a l ih =>
        intro hl
        rw [List.nodup_cons] at hl
        obtain ⟨i1, i2⟩ := ih hl.2
        rw [List.filterMap_cons]
        cases hg : H.get a with
        | none => exact ⟨i1, fun x hx => List.mem_cons_of_mem _ (i2 x hx)⟩
        | some b =>
          simp only [Option.map_some, List.map_cons]
          refine ⟨List.nodup_cons.2 ⟨fun hm => hl.1 (i2 a hm), i1⟩, fun x hx => ?_⟩
          rcases List.mem_cons.1 hx with rfl | hx
          · exact List.mem_cons_self ..
          · exact List.mem_cons_of_mem _ (i2 x hx)
    exact (key _ List.nodup_range).1
  · obtain ⟨n, hn, e⟩ := List.mem_filterMap.1 hp
    cases hg : H.get n with
    | none => rw [hg] at e; cases e
    | some b => rw [hg] at e; simp only [Option.map_some, Option.some.injEq] at e; subst e; exact ⟨hg, List.mem_range.1 hn⟩
theorem Bs.bp {H : AH} (ho : H.Ok) {v : AV} {l : List UInt8} (h : Bs H v l) : Bp (allL H) v l := by
  cases h with
  | nil => exact .nil
  | none => exact .none
  | mk hb hc => exact .mk (allL_mem ho hb) hc
end Go.Proofs.Ytjheedfobmlalaa.E
