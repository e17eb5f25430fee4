/- DcepApart, for every input, without conditions. -/
import Derived.Test.YtfhbdddjclodhaaDoorF
import Derived.Test.YtfhbdddjclodhaaDoorHPA
namespace Go.Proofs.YtfhbdddjclodhaaDoor.E

open Go.RowKit (Below)
open Go.Lib
set_option linter.unusedVariables false
set_option linter.unusedSimpArgs false
structure Op where
 kind : Int
 prio : Int
 limit : Int
 label : List UInt8
 proto : List UInt8
def Op.enc (o : Op) : List UInt8 := encB o.kind o.prio o.limit o.label o.proto
def Op.ch (o : Op) (n : Int) : Ch := ⟨n, o.kind, o.prio, o.limit, o.label, o.proto, false, false⟩
def Op.ok (o : Op) : Prop := (0 ≤ o.kind ∧ o.kind < 256) ∧ (0 ≤ o.prio ∧ o.prio < 65536) ∧ (0 ≤ o.limit ∧ o.limit < 4294967296) ∧ encE o.kind o.label o.proto = 0
theorem txt_cancel {a b : List UInt8} (h : txt a = txt b) : a = b := by
 have := congrArg (fun s => s.data.toList) h
 simpa [txt] using this
theorem Op.dec {o : Op} (h : o.ok) : dErr o.enc = 0 ∧ dK o.enc = o.kind ∧ dP o.enc = o.prio ∧ dL o.enc = o.limit ∧ dT o.enc = o.label ∧ dO o.enc = o.proto := by
 obtain ⟨h1, h2⟩ := dec_enc h.1 h.2.1 h.2.2.1 h.2.2.2
 unfold dCells at h2
 simp only [List.cons.injEq, AV.i.injEq, AV.s.injEq, true_and, and_true] at h2
 obtain ⟨a, b, c, d, e⟩ := h2
 exact ⟨h1, a, b, c, txt_cancel d, txt_cancel e⟩
def StF (cs : List Ch) (f : Nat → Ch) : Prop := cs.length = 64 ∧ ∀ k, cs.getD k ch0 = f k
theorem StF.set {cs : List Ch} {f : Nat → Ch} (h : StF cs f) {k : Nat} (hk : k < 64) (c : Ch) : StF (cs.set k c) (fun j => if k = j then c else f j) := by
  refine ⟨by rw [List.length_set]; exact h.1, fun j => ?_⟩
  show (cs.set k c).getD j ch0 = if k = j then c else f j
  rw [List.getD_eq_getElem?_getD, List.getElem?_set]
  by_cases hj : k = j
  · subst hj; rw [if_pos rfl, if_pos (by have := h.1; omega), if_pos rfl]; rfl
  · rw [if_neg hj, if_neg hj, ← h.2 j, List.getD_eq_getElem?_getD]
theorem StF.congr {cs : List Ch} {f g : Nat → Ch} (h : StF cs f) (e : ∀ k, f k = g k) : StF cs g := ⟨h.1, fun k => (h.2 k).trans (e k)⟩
theorem StF.eq {a b : List Ch} {f : Nat → Ch} (h : StF a f) (k : StF b f) : a = b := by
 refine List.ext_getElem (h.1.trans k.1.symm) fun i h1 h2 => ?_
 have e1 := h.2 i
 have e2 := k.2 i
 rw [List.getD_eq_getElem?_getD, List.getElem?_eq_getElem h1] at e1
 rw [List.getD_eq_getElem?_getD, List.getElem?_eq_getElem h2] at e2
 exact e1.trans e2.symm
theorem hear_open {cs : List Ch} {even : Bool} {f : Nat → Ch} (hs : StF cs f) {k : Nat} (hk : k < 64) (hf : f k = ch0) (hown : ownB k even = false) {o : Op} (ho : o.ok) : hear cs even k 50 o.enc = ⟨1, k, o.kind, o.prio, o.limit, o.label, o.proto, false, [], [2], 0, cs.set k (o.ch 2)⟩ := by
 obtain ⟨h1, h2, h3, h4, h5, h6⟩ := o.dec ho
 have hl : o.enc.length = 12 + o.label.length + o.proto.length := encB_len _ _ _ _ _
 have hn : ¬ o.enc = [2] := fun h => by rw [h] at hl; simp at hl; omega
 have hg : cs.getD k ch0 = ch0 := (hs.2 k).trans hf
 unfold hear
 rw [hg, if_neg (by have := hs.1; omega), if_pos rfl, if_neg hn, if_neg (by rw [h1]; decide), if_neg (by rw [hown]; decide), h2, h3, h4, h5, h6]
 rfl
theorem hear_ack {cs : List Ch} {even : Bool} {f : Nat → Ch} (hs : StF cs f) {k : Nat} (hk : k < 64) {o : Op} (hf : f k = o.ch 1) : hear cs even k 50 [2] = ⟨2, k, o.kind, o.prio, o.limit, o.label, o.proto, false, [], [], 0, cs.set k (o.ch 2)⟩ := by
 have hg : cs.getD k ch0 = o.ch 1 := (hs.2 k).trans hf
 unfold hear
 rw [hg, if_neg (by have := hs.1; omega), if_pos rfl, if_pos rfl, if_neg (show ¬ (o.ch 1).st = 0 from (by decide : ¬ (1 : Int) = 0)), if_pos (show (o.ch 1).st = 1 from rfl)]
 rfl
def lk (A : List (Nat × Op)) (k : Nat) : Option Op := (A.find? (fun p => p.1 == k)).map (·.2)
theorem lk_cons (j : Nat) (o : Op) (A : List (Nat × Op)) (k : Nat) : lk ((j, o) :: A) k = if j = k then some o else lk A k := by
  unfold lk
  rw [List.find?_cons]
  by_cases h : j = k
  · subst h; simp
  · rw [if_neg h, show (((j, o) : Nat × Op).1 == k) = false by simpa using h]
theorem lk_none {A : List (Nat × Op)} {k : Nat} (h : ∀ p ∈ A, p.1 ≠ k) : lk A k = none := by
 unfold lk
 rw [List.find?_eq_none.2 (fun p hp => by simpa using h p hp)]; rfl
theorem lk_some {A : List (Nat × Op)} {k : Nat} {o : Op} (h : lk A k = some o) : (k, o) ∈ A := by
  unfold lk at h
  cases hf : A.find? (fun p => p.1 == k) with
  | none => rw [hf] at h; cases h
  | some p =>
    rw [hf] at h
    simp only [Option.map_some, Option.some.injEq] at h
    subst h
    have h1 := List.find?_some hf
    have h2 := List.mem_of_find?_eq_some hf
    have : p.1 = k := by simpa using h1
    subst this
    exact h2
theorem lk_mem {A : List (Nat × Op)} (hn : (A.map Prod.fst).Nodup) {k : Nat} {o : Op} (h : (k, o) ∈ A) : lk A k = some o := by
  induction A with
  | nil => cases h
  | cons p A ih =>
    obtain ⟨j, q⟩ := p
    rw [lk_cons]
    rw [List.map_cons, List.nodup_cons] at hn
    rcases List.mem_cons.1 h with e | e
    · cases e; rw [if_pos rfl]
    · rw [if_neg (fun hj => hn.1 (by subst hj; exact List.mem_map.2 ⟨_, e, rfl⟩))]; exact ih hn.2 e
theorem lk_app {A : List (Nat × Op)} {k : Nat} {o : Op} (j : Nat) : lk (A ++ [(k, o)]) j = match lk A j with | some q => some q | none => if k = j then some o else none := by
  induction A with
  | nil => rw [List.nil_append, lk_cons]; rfl
  | cons p A ih =>
    obtain ⟨i, q⟩ := p
    rw [List.cons_append, lk_cons, lk_cons, ih]
    split <;> rfl
def ovl (A : List (Nat × Op)) (n : Int) (f : Nat → Ch) (k : Nat) : Ch := match lk A k with | some o => o.ch n | none => f k
theorem ovl_cons {j : Nat} {o : Op} {A : List (Nat × Op)} {n : Int} {f : Nat → Ch} (hj : ∀ p ∈ A, p.1 ≠ j) (k : Nat) : ovl A n (fun i => if j = i then o.ch n else f i) k = ovl ((j, o) :: A) n f k := by
  unfold ovl
  rw [lk_cons]
  by_cases h : j = k
  · subst h; rw [if_pos rfl, lk_none hj]; show (if j = j then o.ch n else f j) = o.ch n; rw [if_pos rfl]
  · rw [if_neg h]
    cases lk A k with
    | none => show (if j = k then o.ch n else f k) = f k; rw [if_neg h]
    | some q => rfl
theorem pass1 (even : Bool) : ∀ (A : List (Nat × Op)) (cs : List Ch) (f : Nat → Ch), StF cs f → (∀ p ∈ A, p.1 < 64 ∧ f p.1 = ch0 ∧ ownB p.1 even = false ∧ p.2.ok) → (A.map Prod.fst).Nodup → ∃ cs', passR cs even (A.map fun p => (p.1, p.2.enc)) = some (cs', A.map fun p => (p.1, [2])) ∧ StF cs' (ovl A 2 f)
  | [], cs, f, hs, _, _ => ⟨cs, rfl, hs⟩
  | (j, o) :: A, cs, f, hs, hA, hn => by
    obtain ⟨h1, h2, h3, h4⟩ := hA (j, o) (List.mem_cons_self)
    rw [List.map_cons, List.nodup_cons] at hn
    have hj : ∀ p ∈ A, p.1 ≠ j := fun p hp e => hn.1 (List.mem_map.2 ⟨p, hp, e⟩)
    obtain ⟨cs', e1, e2⟩ := pass1 even A (cs.set j (o.ch 2)) _ (hs.set h1 (o.ch 2)) (fun p hp => by
      obtain ⟨a, b, c, d⟩ := hA p (List.mem_cons_of_mem _ hp)
      exact ⟨a, by rw [if_neg (Ne.symm (hj p hp))]; exact b, c, d⟩) hn.2
    refine ⟨cs', ?_, e2.congr (ovl_cons hj)⟩
    rw [List.map_cons, passR, hear_open hs h1 h2 h3 h4, if_pos ⟨rfl, rfl⟩, e1]
    rfl
theorem pass2 (even : Bool) : ∀ (A : List (Nat × Op)) (cs : List Ch) (f : Nat → Ch), StF cs f → (∀ p ∈ A, p.1 < 64 ∧ f p.1 = p.2.ch 1) → (A.map Prod.fst).Nodup → ∃ cs', passR cs even (A.map fun p => (p.1, [2])) = some (cs', []) ∧ StF cs' (ovl A 2 f)
  | [], cs, f, hs, _, _ => ⟨cs, rfl, hs⟩
  | (j, o) :: A, cs, f, hs, hA, hn => by
    obtain ⟨h1, h2⟩ := hA (j, o) (List.mem_cons_self)
    rw [List.map_cons, List.nodup_cons] at hn
    have hj : ∀ p ∈ A, p.1 ≠ j := fun p hp e => hn.1 (List.mem_map.2 ⟨p, hp, e⟩)
    obtain ⟨cs', e1, e2⟩ := pass2 even A (cs.set j (o.ch 2)) _ (hs.set h1 (o.ch 2)) (fun p hp => by
      obtain ⟨a, b⟩ := hA p (List.mem_cons_of_mem _ hp)
      exact ⟨a, by rw [if_neg (Ne.symm (hj p hp))]; exact b⟩) hn.2
    refine ⟨cs', ?_, e2.congr (ovl_cons hj)⟩
    rw [List.map_cons, passR, hear_ack hs h1 h2, if_pos ⟨rfl, rfl⟩, e1]
    rfl
def Inv1 (even : Bool) (cs : List Ch) (A : List (Nat × Op)) : Prop := StF cs (ovl A 1 fun _ => ch0) ∧ (∀ p ∈ A, p.1 < 64 ∧ ownB p.1 even = true ∧ p.2.ok) ∧ (A.map Prod.fst).Nodup
theorem Inv1.new (even : Bool) : Inv1 even (List.replicate 64 ch0) [] := ⟨⟨by simp, fun k => by
 show (List.replicate 64 ch0).getD k ch0 = ch0
 rw [List.getD_eq_getElem?_getD, List.getElem?_replicate]; split <;> rfl⟩, fun p hp => (by cases hp), List.nodup_nil⟩
theorem own_not {k : Nat} {even : Bool} (h : ownB k even = true) : ownB k (!even) = false := by
 unfold ownB at *; cases even <;> cases hd : decide (((k % 2 : Nat) : Int) = 0) <;> rw [hd] at h <;> revert h <;> decide
theorem Inv1.ask {even : Bool} {cs : List Ch} {A : List (Nat × Op)} (h : Inv1 even cs A) (kind prio limit : Int) (label proto : List UInt8) (hk : 0 ≤ kind ∧ kind < 256) (hp : 0 ≤ prio ∧ prio < 65536) (hl : 0 ≤ limit ∧ limit < 4294967296) (hE : askE cs even kind label proto = 0) :
    ∃ k : Nat, askS cs even kind label proto = (k : Int) ∧ k < 64 ∧ ownB k even = true ∧ askO cs even kind prio limit label proto = (Op.mk kind prio limit label proto).enc ∧ Inv1 even (askC cs even kind prio limit label proto) (A ++ [(k, ⟨kind, prio, limit, label, proto⟩)]) := by
  unfold askE at hE
  split at hE
  · rename_i h1; exact absurd hE h1
  · rename_i h1
    have hE0 : encE kind label proto = 0 := Decidable.byContradiction h1
    cases hK : askK cs even with
    | none => rw [hK] at hE; cases hE
    | some k =>
      have hk1 := List.find?_some hK
      have hk2 := List.mem_of_find?_eq_some hK
      rw [List.mem_range, h.1.1] at hk2
      have hk3 : ownB k even = true ∧ (cs.getD k ch0).st = 0 := by unfold askB at hk1; simpa using hk1
      have hnone : lk A k = none := by
        cases hlk : lk A k with
        | none => rfl
        | some o =>
          have := h.1.2 k
          rw [show ovl A 1 (fun _ => ch0) k = o.ch 1 by unfold ovl; rw [hlk]] at this
          rw [this] at hk3
          exact absurd hk3.2 (by show ¬ (1 : Int) = 0; decide)
      refine ⟨k, by unfold askS; rw [if_neg h1, hK], hk2, hk3.1, by unfold askO; rw [if_neg h1, hK]; rfl, ?_⟩
      have hC : askC cs even kind prio limit label proto = cs.set k ((Op.mk kind prio limit label proto).ch 1) := by unfold askC; rw [if_neg h1, hK]; rfl
      rw [hC]
      refine ⟨(h.1.set hk2 _).congr fun j => ?_, fun p hp' => ?_, ?_⟩
      · unfold ovl
        rw [lk_app]
        by_cases hj : k = j
        · subst hj; rw [if_pos rfl, hnone]; simp
        · rw [if_neg hj]
          cases lk A j with
          | none => simp only [if_neg hj]
          | some q => rfl
      · rcases List.mem_append.1 hp' with hp1 | hp1
        · exact h.2.1 p hp1
        · rw [List.mem_singleton] at hp1; subst hp1; exact ⟨hk2, hk3.1, hk, hp, hl, hE0⟩
      · rw [List.map_append, List.nodup_append]
        refine ⟨h.2.2, by simp, fun a ha b hb => ?_⟩
        simp only [List.map_cons, List.map_nil, List.mem_singleton] at hb
        subst hb
        rintro rfl
        obtain ⟨p, hp1, hp2⟩ := List.mem_map.1 ha
        have := lk_mem h.2.2 (k := a) (o := p.2) (by subst hp2; exact hp1)
        rw [hnone] at this; cases this
theorem apart {c s : List Ch} {A B : List (Nat × Op)} (hA : Inv1 true c A) (hB : Inv1 false s B) : ∃ s1 c1 e, passR s false (A.map fun p => (p.1, p.2.enc)) = some (s1, A.map fun p => (p.1, [2])) ∧ passR c true (B.map fun p => (p.1, p.2.enc)) = some (c1, B.map fun p => (p.1, [2])) ∧ passR s1 false (B.map fun p => (p.1, [2])) = some (e, []) ∧ passR c1 true (A.map fun p => (p.1, [2])) = some (e, []) ∧ ∀ k, ¬ (e.getD k ch0).st = 1 := by
  have nAB : ∀ p ∈ A, lk B p.1 = none := fun p hp => lk_none fun q hq e => by
    have h1 := own_not (hA.2.1 p hp).2.1
    have h2 := (hB.2.1 q hq).2.1
    rw [e] at h2; rw [show (!true) = false from rfl, h2] at h1; cases h1
  have nBA : ∀ p ∈ B, lk A p.1 = none := fun p hp => lk_none fun q hq e => by
    have h1 := own_not (hB.2.1 p hp).2.1
    have h2 := (hA.2.1 q hq).2.1
    rw [e] at h2; rw [show (!false) = true from rfl, h2] at h1; cases h1
  obtain ⟨s1, e1, f1⟩ := pass1 false A s _ hB.1 (fun p hp => ⟨(hA.2.1 p hp).1, by unfold ovl; rw [nAB p hp], own_not (hA.2.1 p hp).2.1, (hA.2.1 p hp).2.2⟩) hA.2.2
  obtain ⟨c1, e2, f2⟩ := pass1 true B c _ hA.1 (fun p hp => ⟨(hB.2.1 p hp).1, by unfold ovl; rw [nBA p hp], own_not (hB.2.1 p hp).2.1, (hB.2.1 p hp).2.2⟩) hB.2.2
  obtain ⟨s2, e3, f3⟩ := pass2 false B s1 _ f1 (fun p hp => ⟨(hB.2.1 p hp).1, by unfold ovl; rw [nBA p hp, lk_mem hB.2.2 (o := p.2) hp]⟩) hB.2.2
  obtain ⟨c2, e4, f4⟩ := pass2 true A c1 _ f2 (fun p hp => ⟨(hA.2.1 p hp).1, by unfold ovl; rw [nAB p hp, lk_mem hA.2.2 (o := p.2) hp]⟩) hA.2.2
  have hg : ∀ k, ovl B 2 (ovl A 2 (ovl B 1 fun _ => ch0)) k = ovl A 2 (ovl B 2 (ovl A 1 fun _ => ch0)) k := fun k => by
    unfold ovl
    cases ha : lk A k with
    | none => cases hb : lk B k <;> rfl
    | some o => rw [nAB _ (lk_some ha)]
  have he : s2 = c2 := (f3.congr hg).eq f4
  subst he
  refine ⟨s1, c1, s2, e1, e2, e3, e4, fun k => ?_⟩
  rw [f4.2 k]
  unfold ovl
  cases ha : lk A k with
  | some o => show ¬ (2 : Int) = 1; decide
  | none =>
    cases hb : lk B k with
    | some o => show ¬ (2 : Int) = 1; decide
    | none => show ¬ (0 : Int) = 1; decide
theorem Op.enc_len {o : Op} (h : o.ok) : o.enc.length ≤ 524 := by
 have h1 := encE_0 h.2.2.2
 unfold Op.enc; rw [encB_len]; omega
theorem Tb.ofA {H0 : AH} (ho : H0.Ok) (h : Tb H0) : ∀ H', Hs H' (allL H0) → Tb H' := fun H' hh => Tb.ro (R := []) h ho (by rw [List.append_nil]; exact hh)
theorem Tb.ofAD {H0 : AH} {D : HL} (ho : H0.Ok) (h : Tb H0) : ∀ H', Hs H' (allL H0 ++ D) → Tb H' := fun H' hh => Tb.ro h ho hh
theorem ask_same {cs : List Ch} {even : Bool} {kind prio limit : Int} {label proto : List UInt8} (h : ¬ askE cs even kind label proto = 0) : askC cs even kind prio limit label proto = cs := by
  unfold askE at h; unfold askC
  split
  · rfl
  · rename_i h1; rw [if_neg h1] at h
    cases hK : askK cs even with
    | none => rfl
    | some k => rw [hK] at h; exact absurd rfl h
def opn (p : Nat × Op) : Nat × List UInt8 := (p.1, p.2.enc)
def ack (p : Nat × Op) : Nat × List UInt8 := (p.1, [2])
theorem Hs.join2 {H : AH} {a b D E R : HL} (h : Hs H (a ++ (b ++ (D ++ (E ++ R))))) : Hs H (a ++ (b ++ ((D ++ E) ++ R))) := by rw [List.append_assoc]; exact h
theorem Hs.part2 {H : AH} {a b D E R : HL} (h : Hs H (a ++ (b ++ ((D ++ E) ++ R)))) : Hs H (a ++ (b ++ (D ++ (E ++ R)))) := by rw [List.append_assoc] at h; exact h
theorem Hs.join3 {H : AH} {q a b D E R : HL} (h : Hs H (q ++ (a ++ (b ++ (D ++ (E ++ R)))))) : Hs H (q ++ (a ++ (b ++ ((D ++ E) ++ R)))) := by rw [List.append_assoc]; exact h
set_option maxRecDepth 100000 in
set_option maxHeartbeats 1000000 in
theorem run8 (H0 : AH) (hok0 : H0.Ok) (htb0 : Tb H0) (oa : Option (Nat × Nat)) (n oc : Nat) (ta : Option (Nat × Nat)) (tn tc : Nat) (Q Q2 : List AV → Prop) (hasks : n = 0 ∨ ∃ b c, oa = some (b, 0) ∧ H0.get b = some (.cells c false) ∧ ∀ i, i < n → ∃ l, takeAt c (i * 5) 5 = some l ∧ Q l) (hopr : ∀ l, Q l → ∃ kind prio limit label proto, l = [(.i .u8 kind), (.i .u16 prio), (.i .u32 limit), (.s (txt label)), (.s (txt proto))] ∧ (0 ≤ kind ∧ kind < 256) ∧ (0 ≤ prio ∧ prio < 65536) ∧ (0 ≤ limit ∧ limit < 4294967296) ∧ label.length ≤ maxLen ∧ proto.length ≤ maxLen) (hturns : tn = 0 ∨ ∃ b c, ta = some (b, 0) ∧ H0.get b = some (.cells c false) ∧ ∀ i, i < tn → ∃ l, takeAt c (i * 1) 1 = some l ∧ Q2 l) (htr : ∀ l, Q2 l → ∃ b, l = [.b b]) : Ev tabV spV (.fn (.func 8) [] []) [.sl oa n oc 0, .sl ta tn tc 0] H0 (fun v _ => v = .b true) := by
 have hH0 := allL_hs hok0
 refine Ev_C (F := x8) rfl ?_
 refine sr ?_
 refine pv (.b false) rfl ?_
 refine O_nil (sr ?_)
 refine O_call (Ev.mono (awake_ev (Tb.ro htb0 hok0 hH0.top0)) fun v1 H2 hq3 => ?_)
 obtain ⟨rfl, hq3⟩ := hq3
 subst H2
 refine pv (.b true) rfl ?_
 refine O_nil ?_
 refine C_seq ?_
 refine sr ?_
 refine pv (.sl oa n oc 0) rfl ?_
 refine O_p (.i .i64 (((n : Nat)) : Int)) (r_len rfl) ?_
 refine O_p (.b (decide (60 < (((n : Nat)) : Int)))) (r_gtr rfl rfl) ?_
 refine O_nil ?_
 refine C_cond (x := (decide (60 < (((n : Nat)) : Int)))) rfl (fun hc4 => ?_) (fun hc4 => ?_)
 ·
  have hr5 := hc4
  try simp only [decide_eq_true_eq, decide_eq_false_iff_not, Bool.not_eq_true', Bool.not_eq_false', Bool.and_eq_true, Bool.or_eq_true, Bool.or_eq_false_iff, Bool.not_not, Bool.and_eq_false_iff] at hc4
  refine sr ?_
  refine pv (.b true) rfl ?_
  refine pv (.b true) rfl ?_
  refine O_nil ?_
  refine C_ret ?_
  refine nx_ret ?_
  exact ⟨.inr rfl, _, resL_one (r_tmp (v := .b true) rfl), rfl⟩
 ·
  have hr6 := hc4
  try simp only [decide_eq_true_eq, decide_eq_false_iff_not, Bool.not_eq_true', Bool.not_eq_false', Bool.and_eq_true, Bool.or_eq_true, Bool.or_eq_false_iff, Bool.not_not, Bool.and_eq_false_iff] at hc4
  refine C_skip ?_
  refine sr ?_
  refine O_call (Ev.mono (tnew_ev true 64 hH0) fun v7 H8 hq9 => ?_)
  rw [show clampN 64 = 64 from rfl] at hq9
  obtain ⟨T10, L11, rfl, hH12⟩ := hq9
  refine pv (.p (some (T10, 0))) rfl ?_
  refine O_nil (sr ?_)
  refine O_call (Ev.mono (tnew_ev false 64 hH12) fun v13 H14 hq15 => ?_)
  rw [show clampN 64 = 64 from rfl] at hq15
  obtain ⟨T16, L17, rfl, hH18⟩ := hq15
  refine pv (.p (some (T16, 0))) rfl ?_
  refine O_nil (sr ?_)
  refine pv (.sl none 0 0 0) rfl ?_
  refine O_nil (sr ?_)
  refine pv (.sl none 0 0 0) rfl ?_
  refine O_nil ?_
  refine C_seq ?_
  refine sr ?_
  refine pv (.i .i64 0) rfl ?_
  refine O_nil ?_
  refine C_block ?_
  have hH19 := (((((hH18.top4).top2).top2).top4).top4)
  refine C_while (fun m20 T21 H22 => ∃ c1 : List Ch, ∃ c2 : List Ch, ∃ aa : List (Nat × Op), ∃ bb : List (Nat × Op), ∃ o8 : AV, ∃ q8 : List AV, ∃ l8 : List AV, ∃ D8 : HL, ∃ o9 : AV, ∃ q9 : List AV, ∃ l9 : List AV, ∃ D9 : HL, ∃ i : Nat, m20 = n - i ∧ i ≤ n ∧ Inv1 true c1 aa ∧ Inv1 false c2 bb ∧ okL c1 ∧ okL c2 ∧ Sq 4 o8 q8 l8 ∧ Mail D8 l8 (bb.map opn) ∧ Sq 4 o9 q9 l9 ∧ Mail D9 l9 (aa.map opn) ∧ aa.length ≤ i ∧ bb.length ≤ i ∧ Hs H22 ([(T10, some (.cells ([(.sl (some (L11, 0)) (c1).length (c1).length 0), (.b true)]) true))] ++ ([(L11, some (.cells (((c1).map Ch.row).flatten) true))] ++ ([(T16, some (.cells ([(.sl (some (L17, 0)) (c2).length (c2).length 0), (.b false)]) true))] ++ ([(L17, some (.cells (((c2).map Ch.row).flatten) true))] ++ ((allL H0) ++ (D8 ++ ((qseg o8 q8) ++ (D9 ++ ((qseg o9 q9) ++ ([])))))))))) ∧ T21.get 0 = (.sl oa n oc 0) ∧ T21.get 1 = (.sl ta tn tc 0) ∧ T21.get 5 = (.b true) ∧ T21.get 6 = (.p (some (T10, 0))) ∧ T21.get 7 = (.p (some (T16, 0))) ∧ T21.get 8 = o8 ∧ T21.get 9 = o9 ∧ T21.get 10 = (.i .i64 (((i : Nat)) : Int))) (fun m20 T21 H22 hI23 => ?_) n _ _ ⟨(List.replicate 64 ch0), (List.replicate 64 ch0), [], [], (.sl none 0 0 0), [], [], [], (.sl none 0 0 0), [], [], [], 0, rfl, Nat.zero_le _, Inv1.new true, Inv1.new false, okL_new _, okL_new _, Sq.nil, Mail.nil, Sq.nil, Mail.nil, Nat.zero_le _, Nat.zero_le _, hH19, rfl, rfl, rfl, rfl, rfl, rfl, rfl, rfl⟩
  obtain ⟨c1, c2, aa, bb, o8, q8, l8, D8, o9, q9, l9, D9, i, hm24, hp25, hp26, hp27, hp28, hp29, hp30, hp31, hp32, hp33, hp34, hp35, hH44, hT36, hT37, hT38, hT39, hT40, hT41, hT42, hT43⟩ := hI23
  refine C_seq ?_
  refine sr ?_
  refine O_p (.i .i64 (((i : Nat)) : Int)) (r_mv hT43) ?_
  refine O_p (.sl oa n oc 0) (r_mv hT36) ?_
  refine O_p (.i .i64 (((n : Nat)) : Int)) (r_len rfl) ?_
  refine O_p (.b (decide ((((i : Nat)) : Int) < (((n : Nat)) : Int)))) (r_lss rfl rfl) ?_
  refine O_nil ?_
  refine C_cond (x := (decide ((((i : Nat)) : Int) < (((n : Nat)) : Int)))) rfl (fun hc45 => ?_) (fun hc45 => ?_)
  ·
   have hr46 := hc45
   try simp only [decide_eq_true_eq, decide_eq_false_iff_not, Bool.not_eq_true', Bool.not_eq_false', Bool.and_eq_true, Bool.or_eq_true, Bool.or_eq_false_iff, Bool.not_not, Bool.and_eq_false_iff] at hc45
   refine C_skip ?_
   refine C_seq ?_
   refine C_block ?_
   refine C_seq ?_
   refine sr ?_
   have hH47 := ((((hH44.top7).top8).top7).top8)
   have hin : i < n := by omega
   obtain ⟨ob, cells, rfl, hob, hrecs⟩ := hasks.resolve_left (by omega)
   obtain ⟨l, hrec, hty⟩ := hrecs i hin
   obtain ⟨kind, prio, limit, label, proto, rfl, hk, hp, hl, hll0, hpl0⟩ := hopr _ hty
   have hll : label.length ≤ 9223372036854775807 := hll0
   have hpl : proto.length ≤ 9223372036854775807 := hpl0
   refine O_p (.sl (some (ob, 0)) n oc 0) (r_mv hT36) ?_
   refine O_p (.i .i64 (((i : Nat)) : Int)) (r_mv hT43) ?_
   refine O_p (.p (some (ob, (i * 5 + 0)))) (by exact (r_islr (b := ob) (k := i) (len := n) (cap := oc) (g := 0) rfl rfl (by omega))) ?_
   refine pf (.p (some (ob, (i * 5 + 3)))) rfl rfl ?_
   refine O_p (.s (txt label)) (r_ld rfl (Hs.ro hok0 hH47.top8 hob) (rec_get (j := 3) hrec rfl)) ?_
   refine O_p (.i .i64 ((((label).length : Nat)) : Int)) (r_lent (l := label) rfl) ?_
   refine O_p (.b (decide (300 < ((((label).length : Nat)) : Int)))) (r_gtr rfl rfl) ?_
   refine pv (.b (decide (300 < ((((label).length : Nat)) : Int)))) rfl ?_
   refine O_gx (e := (!(decide (300 < ((((label).length : Nat)) : Int))))) (v := (.sl (some (ob, 0)) n oc 0)) (wf rfl) (fun he => (r_mv hT36)) ?_
   refine O_gx (e := (!(decide (300 < ((((label).length : Nat)) : Int))))) (v := (.i .i64 (((i : Nat)) : Int))) (wf rfl) (fun he => (r_mv hT43)) ?_
   refine O_gx (e := (!(decide (300 < ((((label).length : Nat)) : Int))))) (v := (.p (some (ob, (i * 5 + 0))))) (wf rfl) (fun he => (by exact (r_islr (b := ob) (k := i) (len := n) (cap := oc) (g := 0) (cond_pos he) (cond_pos he) (by omega)))) ?_
   refine O_gx (e := (!(decide (300 < ((((label).length : Nat)) : Int))))) (v := (.p (some (ob, (i * 5 + 4))))) (wf rfl) (fun he => (r_fadd' (cond_pos he) rfl)) ?_
   refine O_gx (e := (!(decide (300 < ((((label).length : Nat)) : Int))))) (v := (.s (txt proto))) (wf rfl) (fun he => (r_ld (cond_pos he) (Hs.ro hok0 hH47.top8 hob) (rec_get (j := 4) hrec rfl))) ?_
   refine O_gx (e := (!(decide (300 < ((((label).length : Nat)) : Int))))) (v := (.i .i64 ((((proto).length : Nat)) : Int))) (wf rfl) (fun he => (r_lent (l := proto) (cond_pos he))) ?_
   refine O_gx (e := (!(decide (300 < ((((label).length : Nat)) : Int))))) (v := (.b (decide (300 < ((((proto).length : Nat)) : Int))))) (wf rfl) (fun he => (r_gtr (cond_pos he) rfl)) ?_
   refine O_p (.b ((decide (300 < ((((label).length : Nat)) : Int))) || (decide (300 < ((((proto).length : Nat)) : Int))))) (r_pick_or rfl rfl rfl rfl) ?_
   refine O_nil ?_
   refine C_cond (x := ((decide (300 < ((((label).length : Nat)) : Int))) || (decide (300 < ((((proto).length : Nat)) : Int))))) rfl (fun hc48 => ?_) (fun hc48 => ?_)
   ·
    have hr49 := hc48
    try simp only [decide_eq_true_eq, decide_eq_false_iff_not, Bool.not_eq_true', Bool.not_eq_false', Bool.and_eq_true, Bool.or_eq_true, Bool.or_eq_false_iff, Bool.not_not, Bool.and_eq_false_iff] at hc48
    refine sr ?_
    refine O_p (.b true) (r_mv hT38) ?_
    refine pv (.b true) rfl ?_
    refine O_nil ?_
    refine C_ret ?_
    refine nx_ret ?_
    refine bk_ret ?_
    refine nx_ret ?_
    refine nx_ret ?_
    refine bk_ret ?_
    refine nx_ret ?_
    exact ⟨.inr rfl, _, resL_one (r_tmp (v := .b true) rfl), rfl⟩
   ·
    have hr50 := hc48
    try simp only [decide_eq_true_eq, decide_eq_false_iff_not, Bool.not_eq_true', Bool.not_eq_false', Bool.and_eq_true, Bool.or_eq_true, Bool.or_eq_false_iff, Bool.not_not, Bool.and_eq_false_iff] at hc48
    refine C_skip ?_
    refine C_seq ?_
    by_cases hti : i < tn
    ·
     obtain ⟨tb_, tcells, rfl, htb_, htrecs⟩ := hturns.resolve_left (by omega)
     obtain ⟨l2, hrec2, hty2⟩ := htrecs i hti
     obtain ⟨tb, rfl⟩ := htr _ hty2
     refine C_region ?_
     refine O_p (.i .i64 (((i : Nat)) : Int)) (r_mv hT43) ?_
     refine O_p (.sl (some (tb_, 0)) tn tc 0) (r_mv hT37) ?_
     refine O_p (.i .i64 (((tn : Nat)) : Int)) (r_len rfl) ?_
     refine O_p (.b true) (by exact (by rw [r_lss rfl rfl, decide_eq_true (by first | omega | assumption)])) ?_
     refine pv (.b true) rfl ?_
     refine O_gk rfl ?_
     refine O_p (.sl (some (tb_, 0)) tn tc 0) (r_mv hT37) ?_
     refine O_gk rfl ?_
     refine O_p (.i .i64 (((i : Nat)) : Int)) (r_mv hT43) ?_
     refine O_gk rfl ?_
     refine O_p (.p (some (tb_, (i * 1 + 0)))) (by exact (r_islr (b := tb_) (k := i) (len := tn) (cap := tc) (g := 0) rfl rfl (by omega))) ?_
     refine O_gk rfl ?_
     refine O_p (.b tb) (r_ld rfl (Hs.ro hok0 hH47.top8 htb_) (rec_get (j := 0) hrec2 rfl)) ?_
     refine O_p (.b tb) (r_pick_t rfl rfl) ?_
     refine pv (.b tb) rfl ?_
     refine O_nil (sr ?_)
     refine pv (.i .u16 0) rfl ?_
     refine O_nil (sr ?_)
     refine pv (.sl none 0 0 0) rfl ?_
     refine O_nil (sr ?_)
     refine pv (.i .i64 0) rfl ?_
     refine O_nil ?_
     refine C_seq ?_
     refine sr ?_
     refine pv (.b tb) rfl ?_
     refine O_nil ?_
     refine C_cond (x := tb) rfl (fun hc51 => ?_) (fun hc51 => ?_)
     ·
      have hr52 := hc51
      try simp only [decide_eq_true_eq, decide_eq_false_iff_not, Bool.not_eq_true', Bool.not_eq_false', Bool.and_eq_true, Bool.or_eq_true, Bool.or_eq_false_iff, Bool.not_not, Bool.and_eq_false_iff] at hc51
      by_cases hE : askE c1 true kind label proto = 0
      ·
       refine C_region ?_
       refine O_p (.p (some (T10, 0))) (r_mv hT39) ?_
       refine O_p (.sl (some (ob, 0)) n oc 0) (r_mv hT36) ?_
       refine O_p (.i .i64 (((i : Nat)) : Int)) (r_mv hT43) ?_
       refine O_p (.p (some (ob, (i * 5 + 0)))) (by exact (r_islr (b := ob) (k := i) (len := n) (cap := oc) (g := 0) rfl rfl (by omega))) ?_
       refine O_p (.agg [(.i .u8 kind), (.i .u16 prio), (.i .u32 limit), (.s (txt label)), (.s (txt proto))]) (r_ldA rfl (Hs.ro hok0 hH47.top8 hob) (rec_take (j := 0) (m := 5) hrec rfl)) ?_
       have hH53 := (((hH47.top8).top6).top6)
       refine O_call (Ev.mono (ask2_ev (cs := c1) hok0 htb0 kind prio limit label proto hk hp hl hll hpl (Nat.le_of_eq hp26.1.1) hH53) fun v54 H55 hq56 => ?_)
       obtain ⟨kk, hkS, hk64, hown, hkO, hinv'⟩ := hp26.ask kind prio limit label proto hk hp hl hE
       rw [hkS, hE, hkO] at hq56
       obtain ⟨o57, c58, rfl, hsq59, hcap60, hH61⟩ := hq56
       obtain ⟨va62, vc63, vg64, rfl, hvg, hvn, hvm⟩ := hcap60
       have hokL' := okL_ask hp28 true kind prio limit label proto
       refine pv (.tup [(.i .u16 ((kk : Nat) : Int)), (.sl va62 (Op.mk kind prio limit label proto).enc.length vc63 vg64), (.i .i64 0)]) rfl ?_
       refine O_p (.i .u16 ((kk : Nat) : Int)) (r_ext rfl rfl) ?_
       refine O_p (.sl va62 (Op.mk kind prio limit label proto).enc.length vc63 vg64) (r_ext rfl rfl) ?_
       refine O_p (.i .i64 0) (r_ext rfl rfl) ?_
       refine pv (.i .u16 ((kk : Nat) : Int)) rfl ?_
       refine pv (.sl va62 (Op.mk kind prio limit label proto).enc.length vc63 vg64) rfl ?_
       refine pv (.i .i64 0) rfl ?_
       refine O_nil ?_
       refine C_seq ?_
       refine sr ?_
       refine pv (.i .i64 0) rfl ?_
       refine O_p (.b false) (by exact (by rw [r_neq rfl rfl, decide_eq_true (by first | omega | assumption)]; rfl)) ?_
       refine O_nil ?_
       refine C_cond (x := false) rfl (fun h => by cases h) (fun _ => ?_)
       refine C_skip ?_
       refine C_seq ?_
       refine sr ?_
       refine pv (.i .u16 ((kk : Nat) : Int)) rfl ?_
       refine O_p (.i .u16 (((kk : Nat) : Int) % 2)) (by exact (r_remu rfl rfl (by omega) (by omega))) ?_
       refine O_p (.b (decide ((((kk : Nat) : Int) % 2) = 0))) (r_eql rfl rfl) ?_
       refine O_p (.b true) (r_mv (Eq.trans rfl (congrArg AV.b hr52))) ?_
       have hpar : (!((decide ((((kk : Nat) : Int) % 2) = 0)) == true)) = false := by unfold ownB at hown; first | (rw [show ((kk : Nat) : Int) % 2 = ((kk % 2 : Nat) : Int) by omega]; simpa using hown) | simp_all
       refine O_p (.b false) (by exact ((r_beq rfl rfl).trans (by rw [if_pos rfl, hpar]))) ?_
       refine O_nil ?_
       refine C_cond (x := false) rfl (fun h => by cases h) (fun _ => ?_)
       refine C_skip ?_
       refine sr ?_
       refine pv (.i .u16 ((kk : Nat) : Int)) rfl ?_
       refine pv (.sl va62 (Op.mk kind prio limit label proto).enc.length vc63 vg64) rfl ?_
       refine O_p (.agg [(.i .u16 ((kk : Nat) : Int)), (.b false), (.i .u32 50), (.sl va62 (Op.mk kind prio limit label proto).enc.length vc63 vg64)]) (r_build rfl) ?_
       refine O_alloc fun n65 H66 hN67 => ?_
       have hH68 := hH61.new hN67
       refine O_store (vs := [(.i .u16 ((kk : Nat) : Int)), (.b false), (.i .u32 50), (.sl va62 (Op.mk kind prio limit label proto).enc.length vc63 vg64)]) (c' := [(.i .u16 ((kk : Nat) : Int)), (.b false), (.i .u32 50), (.sl va62 (Op.mk kind prio limit label proto).enc.length vc63 vg64)]) rfl (by rfl) hH68.get0 rfl (List.cons_ne_nil _ _) (Nat.le_of_ble_eq_true rfl) rfl fun H69 hW70 => ?_
       have hH71 := hH68.wr0 hW70
       refine O_nil (sr ?_)
       refine O_p (.b true) (r_mv (Eq.trans rfl (congrArg AV.b hr52))) ?_
       refine O_nil ?_
       refine C_cond (x := true) rfl (fun _ => ?_) (fun h => by cases h)
       refine C_region ?_
       refine O_p o9 (r_mv hT42) ?_
       refine O_p (.agg [(.i .u16 ((kk : Nat) : Int)), (.b false), (.i .u32 50), (.sl va62 (Op.mk kind prio limit label proto).enc.length vc63 vg64)]) (r_ldA rfl hH71.get0 rfl) ?_
       refine O_bslice (c := [(.i .u16 ((kk : Nat) : Int)), (.b false), (.i .u32 50), (.sl va62 (Op.mk kind prio limit label proto).enc.length vc63 vg64)]) rfl fun n72 H73 hN74 => ?_
       have hH75 := hH71.new hN74
       have hH76 := (hH75.sub1)
       refine O_qh (by exact r_appq (n := aa.length) (k := 1) (new := [(.i .u16 ((kk : Nat) : Int)), (.b false), (.i .u32 50), (.sl va62 (Op.mk kind prio limit label proto).enc.length vc63 vg64)]) hH76.top7 hp32 rfl rfl rfl (src_blk hH76.get0 (by rfl)) rfl (by decide) (by decide) (hp33.1.trans (by rw [List.length_map])) (by first | omega | (simp only [List.length_take, List.length_drop, List.length_append, List.length_cons, List.length_nil, beN_len] <;> omega))) fun o77 H78 hA80 => ?_
       obtain ⟨c79, hA80, hH81⟩ := hA80
       refine pv o77 rfl ?_
       refine O_nil ?_
       refine C_region ?_
       refine O_p (.i .i64 (((i : Nat)) : Int)) (r_mv hT43) ?_
       refine O_p (.i .i64 ((((i : Nat)) : Int) + 1)) (by exact (r_addi rfl rfl (wrap_i64 (by omega) (by omega)))) ?_
       refine pv (.i .i64 ((((i : Nat)) : Int) + 1)) rfl ?_
       refine O_nil ?_
       have hH82 := ((hH81.top2).top8)
       have hH83 := (Hs.unassoc hH82)
       have hH84 := (hH83.sub2)
       have hH85 := (((((((((hH84.top1).top1).top5).top6).top6).top8).top8).top8).top8)
       exact ⟨n - (i + 1), by omega, (askC c1 true kind prio limit label proto), c2, (aa ++ [(kk, Op.mk kind prio limit label proto)]), bb, o8, q8, l8, D8, o77, c79, (l9 ++ [(.i .u16 ((kk : Nat) : Int)), (.b false), (.i .u32 50), (.sl va62 (Op.mk kind prio limit label proto).enc.length vc63 vg64)]), (D9 ++ (qseg (.sl va62 (Op.mk kind prio limit label proto).enc.length vc63 vg64) c58)), (i + 1), rfl, by omega, hinv', hp27, hokL', hp29, hp30, hp31, hA80, by rw [List.map_append]; exact Mail.snoc hp33 (by omega) (by have := (Op.mk kind prio limit label proto).enc_len (hinv'.2.1 _ (List.mem_append.2 (.inr (List.mem_singleton.2 rfl)))).2.2; omega) hvg hvn hvm hsq59, by rw [List.length_append]; simp only [List.length_cons, List.length_nil]; omega, by omega, hH85, hT36, hT37, hT38, hT39, hT40, hT41, rfl, rfl⟩
      ·
       refine C_region ?_
       refine O_p (.p (some (T10, 0))) (r_mv hT39) ?_
       refine O_p (.sl (some (ob, 0)) n oc 0) (r_mv hT36) ?_
       refine O_p (.i .i64 (((i : Nat)) : Int)) (r_mv hT43) ?_
       refine O_p (.p (some (ob, (i * 5 + 0)))) (by exact (r_islr (b := ob) (k := i) (len := n) (cap := oc) (g := 0) rfl rfl (by omega))) ?_
       refine O_p (.agg [(.i .u8 kind), (.i .u16 prio), (.i .u32 limit), (.s (txt label)), (.s (txt proto))]) (r_ldA rfl (Hs.ro hok0 hH47.top8 hob) (rec_take (j := 0) (m := 5) hrec rfl)) ?_
       have hH86 := (((hH47.top8).top6).top6)
       refine O_call (Ev.mono (ask2_ev (cs := c1) hok0 htb0 kind prio limit label proto hk hp hl hll hpl (Nat.le_of_eq hp26.1.1) hH86) fun v87 H88 hq89 => ?_)
       rw [ask_same hE] at hq89
       obtain ⟨o90, c91, rfl, hsq92, hcap93, hH94⟩ := hq89
       refine pv (.tup [(.i .u16 (askS c1 true kind label proto)), o90, (.i .i64 (askE c1 true kind label proto))]) rfl ?_
       refine O_p (.i .u16 (askS c1 true kind label proto)) (r_ext rfl rfl) ?_
       refine O_p o90 (r_ext rfl rfl) ?_
       refine O_p (.i .i64 (askE c1 true kind label proto)) (r_ext rfl rfl) ?_
       refine pv (.i .u16 (askS c1 true kind label proto)) rfl ?_
       refine pv o90 rfl ?_
       refine pv (.i .i64 (askE c1 true kind label proto)) rfl ?_
       refine O_nil ?_
       refine C_seq ?_
       refine sr ?_
       refine pv (.i .i64 (askE c1 true kind label proto)) rfl ?_
       refine O_p (.b true) (by exact (by rw [r_neq rfl rfl, decide_eq_false (by first | omega | assumption)]; rfl)) ?_
       refine O_nil ?_
       refine C_cond (x := true) rfl (fun _ => ?_) (fun h => by cases h)
       refine C_exit ?_
       refine nx_exit ?_
       refine bk_hit ?_
       refine C_region ?_
       refine O_p (.i .i64 (((i : Nat)) : Int)) (r_mv hT43) ?_
       refine O_p (.i .i64 ((((i : Nat)) : Int) + 1)) (by exact (r_addi rfl rfl (wrap_i64 (by omega) (by omega)))) ?_
       refine pv (.i .i64 ((((i : Nat)) : Int) + 1)) rfl ?_
       refine O_nil ?_
       have hH95 := (hH94.sub0)
       have hH96 := (((((((((hH95.top5).top6).top5).top6).top6).top8).top8).top8).top8)
       exact ⟨n - (i + 1), by omega, c1, c2, aa, bb, o8, q8, l8, D8, o9, q9, l9, D9, (i + 1), rfl, by omega, hp26, hp27, hp28, hp29, hp30, hp31, hp32, hp33, by omega, by omega, hH96, hT36, hT37, hT38, hT39, hT40, hT41, hT42, rfl⟩
     ·
      have hr97 := hc51
      try simp only [decide_eq_true_eq, decide_eq_false_iff_not, Bool.not_eq_true', Bool.not_eq_false', Bool.and_eq_true, Bool.or_eq_true, Bool.or_eq_false_iff, Bool.not_not, Bool.and_eq_false_iff] at hc51
      by_cases hE : askE c2 false kind label proto = 0
      ·
       refine C_region ?_
       refine O_p (.p (some (T16, 0))) (r_mv hT40) ?_
       refine O_p (.sl (some (ob, 0)) n oc 0) (r_mv hT36) ?_
       refine O_p (.i .i64 (((i : Nat)) : Int)) (r_mv hT43) ?_
       refine O_p (.p (some (ob, (i * 5 + 0)))) (by exact (r_islr (b := ob) (k := i) (len := n) (cap := oc) (g := 0) rfl rfl (by omega))) ?_
       refine O_p (.agg [(.i .u8 kind), (.i .u16 prio), (.i .u32 limit), (.s (txt label)), (.s (txt proto))]) (r_ldA rfl (Hs.ro hok0 hH47.top8 hob) (rec_take (j := 0) (m := 5) hrec rfl)) ?_
       have hH98 := (((hH47.top8).top8).top8)
       refine O_call (Ev.mono (ask2_ev (cs := c2) hok0 htb0 kind prio limit label proto hk hp hl hll hpl (Nat.le_of_eq hp27.1.1) hH98) fun v99 H100 hq101 => ?_)
       obtain ⟨kk, hkS, hk64, hown, hkO, hinv'⟩ := hp27.ask kind prio limit label proto hk hp hl hE
       rw [hkS, hE, hkO] at hq101
       obtain ⟨o102, c103, rfl, hsq104, hcap105, hH106⟩ := hq101
       obtain ⟨va107, vc108, vg109, rfl, hvg, hvn, hvm⟩ := hcap105
       have hokL' := okL_ask hp29 false kind prio limit label proto
       refine pv (.tup [(.i .u16 ((kk : Nat) : Int)), (.sl va107 (Op.mk kind prio limit label proto).enc.length vc108 vg109), (.i .i64 0)]) rfl ?_
       refine O_p (.i .u16 ((kk : Nat) : Int)) (r_ext rfl rfl) ?_
       refine O_p (.sl va107 (Op.mk kind prio limit label proto).enc.length vc108 vg109) (r_ext rfl rfl) ?_
       refine O_p (.i .i64 0) (r_ext rfl rfl) ?_
       refine pv (.i .u16 ((kk : Nat) : Int)) rfl ?_
       refine pv (.sl va107 (Op.mk kind prio limit label proto).enc.length vc108 vg109) rfl ?_
       refine pv (.i .i64 0) rfl ?_
       refine O_nil ?_
       refine C_seq ?_
       refine sr ?_
       refine pv (.i .i64 0) rfl ?_
       refine O_p (.b false) (by exact (by rw [r_neq rfl rfl, decide_eq_true (by first | omega | assumption)]; rfl)) ?_
       refine O_nil ?_
       refine C_cond (x := false) rfl (fun h => by cases h) (fun _ => ?_)
       refine C_skip ?_
       refine C_seq ?_
       refine sr ?_
       refine pv (.i .u16 ((kk : Nat) : Int)) rfl ?_
       refine O_p (.i .u16 (((kk : Nat) : Int) % 2)) (by exact (r_remu rfl rfl (by omega) (by omega))) ?_
       refine O_p (.b (decide ((((kk : Nat) : Int) % 2) = 0))) (r_eql rfl rfl) ?_
       refine O_p (.b false) (r_mv (Eq.trans rfl (congrArg AV.b hr97))) ?_
       have hpar : (!((decide ((((kk : Nat) : Int) % 2) = 0)) == false)) = false := by unfold ownB at hown; first | (rw [show ((kk : Nat) : Int) % 2 = ((kk % 2 : Nat) : Int) by omega]; simpa using hown) | simp_all
       refine O_p (.b false) (by exact ((r_beq rfl rfl).trans (by rw [if_pos rfl, hpar]))) ?_
       refine O_nil ?_
       refine C_cond (x := false) rfl (fun h => by cases h) (fun _ => ?_)
       refine C_skip ?_
       refine sr ?_
       refine pv (.i .u16 ((kk : Nat) : Int)) rfl ?_
       refine pv (.sl va107 (Op.mk kind prio limit label proto).enc.length vc108 vg109) rfl ?_
       refine O_p (.agg [(.i .u16 ((kk : Nat) : Int)), (.b false), (.i .u32 50), (.sl va107 (Op.mk kind prio limit label proto).enc.length vc108 vg109)]) (r_build rfl) ?_
       refine O_alloc fun n110 H111 hN112 => ?_
       have hH113 := hH106.new hN112
       refine O_store (vs := [(.i .u16 ((kk : Nat) : Int)), (.b false), (.i .u32 50), (.sl va107 (Op.mk kind prio limit label proto).enc.length vc108 vg109)]) (c' := [(.i .u16 ((kk : Nat) : Int)), (.b false), (.i .u32 50), (.sl va107 (Op.mk kind prio limit label proto).enc.length vc108 vg109)]) rfl (by rfl) hH113.get0 rfl (List.cons_ne_nil _ _) (Nat.le_of_ble_eq_true rfl) rfl fun H114 hW115 => ?_
       have hH116 := hH113.wr0 hW115
       refine O_nil (sr ?_)
       refine O_p (.b false) (r_mv (Eq.trans rfl (congrArg AV.b hr97))) ?_
       refine O_nil ?_
       refine C_cond (x := false) rfl (fun h => by cases h) (fun _ => ?_)
       refine C_region ?_
       refine O_p o8 (r_mv hT41) ?_
       refine O_p (.agg [(.i .u16 ((kk : Nat) : Int)), (.b false), (.i .u32 50), (.sl va107 (Op.mk kind prio limit label proto).enc.length vc108 vg109)]) (r_ldA rfl hH116.get0 rfl) ?_
       refine O_bslice (c := [(.i .u16 ((kk : Nat) : Int)), (.b false), (.i .u32 50), (.sl va107 (Op.mk kind prio limit label proto).enc.length vc108 vg109)]) rfl fun n117 H118 hN119 => ?_
       have hH120 := hH116.new hN119
       have hH121 := (hH120.sub1)
       refine O_qh (by exact r_appq (n := bb.length) (k := 1) (new := [(.i .u16 ((kk : Nat) : Int)), (.b false), (.i .u32 50), (.sl va107 (Op.mk kind prio limit label proto).enc.length vc108 vg109)]) hH121.top5 hp30 rfl rfl rfl (src_blk hH121.get0 (by rfl)) rfl (by decide) (by decide) (hp31.1.trans (by rw [List.length_map])) (by first | omega | (simp only [List.length_take, List.length_drop, List.length_append, List.length_cons, List.length_nil, beN_len] <;> omega))) fun o122 H123 hA125 => ?_
       obtain ⟨c124, hA125, hH126⟩ := hA125
       refine pv o122 rfl ?_
       refine O_nil ?_
       refine C_region ?_
       refine O_p (.i .i64 (((i : Nat)) : Int)) (r_mv hT43) ?_
       refine O_p (.i .i64 ((((i : Nat)) : Int) + 1)) (by exact (r_addi rfl rfl (wrap_i64 (by omega) (by omega)))) ?_
       refine pv (.i .i64 ((((i : Nat)) : Int) + 1)) rfl ?_
       refine O_nil ?_
       have hH127 := ((hH126.top2).top6)
       have hH128 := (Hs.unassoc hH127)
       have hH129 := (hH128.sub2)
       have hH130 := (((((((((hH129.top5).top6).top3).top3).top6).top6).top6).top8).top8)
       exact ⟨n - (i + 1), by omega, c1, (askC c2 false kind prio limit label proto), aa, (bb ++ [(kk, Op.mk kind prio limit label proto)]), o122, c124, (l8 ++ [(.i .u16 ((kk : Nat) : Int)), (.b false), (.i .u32 50), (.sl va107 (Op.mk kind prio limit label proto).enc.length vc108 vg109)]), (D8 ++ (qseg (.sl va107 (Op.mk kind prio limit label proto).enc.length vc108 vg109) c103)), o9, q9, l9, D9, (i + 1), rfl, by omega, hp26, hinv', hp28, hokL', hA125, by rw [List.map_append]; exact Mail.snoc hp31 (by omega) (by have := (Op.mk kind prio limit label proto).enc_len (hinv'.2.1 _ (List.mem_append.2 (.inr (List.mem_singleton.2 rfl)))).2.2; omega) hvg hvn hvm hsq104, hp32, hp33, by omega, by rw [List.length_append]; simp only [List.length_cons, List.length_nil]; omega, hH130, hT36, hT37, hT38, hT39, hT40, rfl, hT42, rfl⟩
      ·
       refine C_region ?_
       refine O_p (.p (some (T16, 0))) (r_mv hT40) ?_
       refine O_p (.sl (some (ob, 0)) n oc 0) (r_mv hT36) ?_
       refine O_p (.i .i64 (((i : Nat)) : Int)) (r_mv hT43) ?_
       refine O_p (.p (some (ob, (i * 5 + 0)))) (by exact (r_islr (b := ob) (k := i) (len := n) (cap := oc) (g := 0) rfl rfl (by omega))) ?_
       refine O_p (.agg [(.i .u8 kind), (.i .u16 prio), (.i .u32 limit), (.s (txt label)), (.s (txt proto))]) (r_ldA rfl (Hs.ro hok0 hH47.top8 hob) (rec_take (j := 0) (m := 5) hrec rfl)) ?_
       have hH131 := (((hH47.top8).top8).top8)
       refine O_call (Ev.mono (ask2_ev (cs := c2) hok0 htb0 kind prio limit label proto hk hp hl hll hpl (Nat.le_of_eq hp27.1.1) hH131) fun v132 H133 hq134 => ?_)
       rw [ask_same hE] at hq134
       obtain ⟨o135, c136, rfl, hsq137, hcap138, hH139⟩ := hq134
       refine pv (.tup [(.i .u16 (askS c2 false kind label proto)), o135, (.i .i64 (askE c2 false kind label proto))]) rfl ?_
       refine O_p (.i .u16 (askS c2 false kind label proto)) (r_ext rfl rfl) ?_
       refine O_p o135 (r_ext rfl rfl) ?_
       refine O_p (.i .i64 (askE c2 false kind label proto)) (r_ext rfl rfl) ?_
       refine pv (.i .u16 (askS c2 false kind label proto)) rfl ?_
       refine pv o135 rfl ?_
       refine pv (.i .i64 (askE c2 false kind label proto)) rfl ?_
       refine O_nil ?_
       refine C_seq ?_
       refine sr ?_
       refine pv (.i .i64 (askE c2 false kind label proto)) rfl ?_
       refine O_p (.b true) (by exact (by rw [r_neq rfl rfl, decide_eq_false (by first | omega | assumption)]; rfl)) ?_
       refine O_nil ?_
       refine C_cond (x := true) rfl (fun _ => ?_) (fun h => by cases h)
       refine C_exit ?_
       refine nx_exit ?_
       refine bk_hit ?_
       refine C_region ?_
       refine O_p (.i .i64 (((i : Nat)) : Int)) (r_mv hT43) ?_
       refine O_p (.i .i64 ((((i : Nat)) : Int) + 1)) (by exact (r_addi rfl rfl (wrap_i64 (by omega) (by omega)))) ?_
       refine pv (.i .i64 ((((i : Nat)) : Int) + 1)) rfl ?_
       refine O_nil ?_
       have hH140 := (hH139.sub0)
       have hH141 := (((((((((hH140.top5).top6).top5).top6).top6).top6).top6).top8).top8)
       exact ⟨n - (i + 1), by omega, c1, c2, aa, bb, o8, q8, l8, D8, o9, q9, l9, D9, (i + 1), rfl, by omega, hp26, hp27, hp28, hp29, hp30, hp31, hp32, hp33, by omega, by omega, hH141, hT36, hT37, hT38, hT39, hT40, hT41, hT42, rfl⟩
    ·
     refine C_region ?_
     refine O_p (.i .i64 (((i : Nat)) : Int)) (r_mv hT43) ?_
     refine O_p (.sl ta tn tc 0) (r_mv hT37) ?_
     refine O_p (.i .i64 (((tn : Nat)) : Int)) (r_len rfl) ?_
     refine O_p (.b false) (by exact (by rw [r_lss rfl rfl, decide_eq_false (by first | omega | assumption)])) ?_
     refine pv (.b false) rfl ?_
     refine O_gf rfl ?_
     refine O_gf rfl ?_
     refine O_gf rfl ?_
     refine O_gf rfl ?_
     refine O_p (.b false) (r_pick_f rfl rfl) ?_
     refine pv (.b false) rfl ?_
     refine O_nil (sr ?_)
     refine pv (.i .u16 0) rfl ?_
     refine O_nil (sr ?_)
     refine pv (.sl none 0 0 0) rfl ?_
     refine O_nil (sr ?_)
     refine pv (.i .i64 0) rfl ?_
     refine O_nil ?_
     refine C_seq ?_
     refine sr ?_
     refine pv (.b false) rfl ?_
     refine O_nil ?_
     refine C_cond (x := false) rfl (fun h => by cases h) (fun _ => ?_)
     by_cases hE : askE c2 false kind label proto = 0
     ·
      refine C_region ?_
      refine O_p (.p (some (T16, 0))) (r_mv hT40) ?_
      refine O_p (.sl (some (ob, 0)) n oc 0) (r_mv hT36) ?_
      refine O_p (.i .i64 (((i : Nat)) : Int)) (r_mv hT43) ?_
      refine O_p (.p (some (ob, (i * 5 + 0)))) (by exact (r_islr (b := ob) (k := i) (len := n) (cap := oc) (g := 0) rfl rfl (by omega))) ?_
      refine O_p (.agg [(.i .u8 kind), (.i .u16 prio), (.i .u32 limit), (.s (txt label)), (.s (txt proto))]) (r_ldA rfl (Hs.ro hok0 hH47.top8 hob) (rec_take (j := 0) (m := 5) hrec rfl)) ?_
      have hH142 := (((hH47.top8).top8).top8)
      refine O_call (Ev.mono (ask2_ev (cs := c2) hok0 htb0 kind prio limit label proto hk hp hl hll hpl (Nat.le_of_eq hp27.1.1) hH142) fun v143 H144 hq145 => ?_)
      obtain ⟨kk, hkS, hk64, hown, hkO, hinv'⟩ := hp27.ask kind prio limit label proto hk hp hl hE
      rw [hkS, hE, hkO] at hq145
      obtain ⟨o146, c147, rfl, hsq148, hcap149, hH150⟩ := hq145
      obtain ⟨va151, vc152, vg153, rfl, hvg, hvn, hvm⟩ := hcap149
      have hokL' := okL_ask hp29 false kind prio limit label proto
      refine pv (.tup [(.i .u16 ((kk : Nat) : Int)), (.sl va151 (Op.mk kind prio limit label proto).enc.length vc152 vg153), (.i .i64 0)]) rfl ?_
      refine O_p (.i .u16 ((kk : Nat) : Int)) (r_ext rfl rfl) ?_
      refine O_p (.sl va151 (Op.mk kind prio limit label proto).enc.length vc152 vg153) (r_ext rfl rfl) ?_
      refine O_p (.i .i64 0) (r_ext rfl rfl) ?_
      refine pv (.i .u16 ((kk : Nat) : Int)) rfl ?_
      refine pv (.sl va151 (Op.mk kind prio limit label proto).enc.length vc152 vg153) rfl ?_
      refine pv (.i .i64 0) rfl ?_
      refine O_nil ?_
      refine C_seq ?_
      refine sr ?_
      refine pv (.i .i64 0) rfl ?_
      refine O_p (.b false) (by exact (by rw [r_neq rfl rfl, decide_eq_true (by first | omega | assumption)]; rfl)) ?_
      refine O_nil ?_
      refine C_cond (x := false) rfl (fun h => by cases h) (fun _ => ?_)
      refine C_skip ?_
      refine C_seq ?_
      refine sr ?_
      refine pv (.i .u16 ((kk : Nat) : Int)) rfl ?_
      refine O_p (.i .u16 (((kk : Nat) : Int) % 2)) (by exact (r_remu rfl rfl (by omega) (by omega))) ?_
      refine O_p (.b (decide ((((kk : Nat) : Int) % 2) = 0))) (r_eql rfl rfl) ?_
      refine pv (.b false) rfl ?_
      have hpar : (!((decide ((((kk : Nat) : Int) % 2) = 0)) == false)) = false := by unfold ownB at hown; first | (rw [show ((kk : Nat) : Int) % 2 = ((kk % 2 : Nat) : Int) by omega]; simpa using hown) | simp_all
      refine O_p (.b false) (by exact ((r_beq rfl rfl).trans (by rw [if_pos rfl, hpar]))) ?_
      refine O_nil ?_
      refine C_cond (x := false) rfl (fun h => by cases h) (fun _ => ?_)
      refine C_skip ?_
      refine sr ?_
      refine pv (.i .u16 ((kk : Nat) : Int)) rfl ?_
      refine pv (.sl va151 (Op.mk kind prio limit label proto).enc.length vc152 vg153) rfl ?_
      refine O_p (.agg [(.i .u16 ((kk : Nat) : Int)), (.b false), (.i .u32 50), (.sl va151 (Op.mk kind prio limit label proto).enc.length vc152 vg153)]) (r_build rfl) ?_
      refine O_alloc fun n154 H155 hN156 => ?_
      have hH157 := hH150.new hN156
      refine O_store (vs := [(.i .u16 ((kk : Nat) : Int)), (.b false), (.i .u32 50), (.sl va151 (Op.mk kind prio limit label proto).enc.length vc152 vg153)]) (c' := [(.i .u16 ((kk : Nat) : Int)), (.b false), (.i .u32 50), (.sl va151 (Op.mk kind prio limit label proto).enc.length vc152 vg153)]) rfl (by rfl) hH157.get0 rfl (List.cons_ne_nil _ _) (Nat.le_of_ble_eq_true rfl) rfl fun H158 hW159 => ?_
      have hH160 := hH157.wr0 hW159
      refine O_nil (sr ?_)
      refine pv (.b false) rfl ?_
      refine O_nil ?_
      refine C_cond (x := false) rfl (fun h => by cases h) (fun _ => ?_)
      refine C_region ?_
      refine O_p o8 (r_mv hT41) ?_
      refine O_p (.agg [(.i .u16 ((kk : Nat) : Int)), (.b false), (.i .u32 50), (.sl va151 (Op.mk kind prio limit label proto).enc.length vc152 vg153)]) (r_ldA rfl hH160.get0 rfl) ?_
      refine O_bslice (c := [(.i .u16 ((kk : Nat) : Int)), (.b false), (.i .u32 50), (.sl va151 (Op.mk kind prio limit label proto).enc.length vc152 vg153)]) rfl fun n161 H162 hN163 => ?_
      have hH164 := hH160.new hN163
      have hH165 := (hH164.sub1)
      refine O_qh (by exact r_appq (n := bb.length) (k := 1) (new := [(.i .u16 ((kk : Nat) : Int)), (.b false), (.i .u32 50), (.sl va151 (Op.mk kind prio limit label proto).enc.length vc152 vg153)]) hH165.top5 hp30 rfl rfl rfl (src_blk hH165.get0 (by rfl)) rfl (by decide) (by decide) (hp31.1.trans (by rw [List.length_map])) (by first | omega | (simp only [List.length_take, List.length_drop, List.length_append, List.length_cons, List.length_nil, beN_len] <;> omega))) fun o166 H167 hA169 => ?_
      obtain ⟨c168, hA169, hH170⟩ := hA169
      refine pv o166 rfl ?_
      refine O_nil ?_
      refine C_region ?_
      refine O_p (.i .i64 (((i : Nat)) : Int)) (r_mv hT43) ?_
      refine O_p (.i .i64 ((((i : Nat)) : Int) + 1)) (by exact (r_addi rfl rfl (wrap_i64 (by omega) (by omega)))) ?_
      refine pv (.i .i64 ((((i : Nat)) : Int) + 1)) rfl ?_
      refine O_nil ?_
      have hH171 := ((hH170.top2).top6)
      have hH172 := (Hs.unassoc hH171)
      have hH173 := (hH172.sub2)
      have hH174 := (((((((((hH173.top5).top6).top3).top3).top6).top6).top6).top8).top8)
      exact ⟨n - (i + 1), by omega, c1, (askC c2 false kind prio limit label proto), aa, (bb ++ [(kk, Op.mk kind prio limit label proto)]), o166, c168, (l8 ++ [(.i .u16 ((kk : Nat) : Int)), (.b false), (.i .u32 50), (.sl va151 (Op.mk kind prio limit label proto).enc.length vc152 vg153)]), (D8 ++ (qseg (.sl va151 (Op.mk kind prio limit label proto).enc.length vc152 vg153) c147)), o9, q9, l9, D9, (i + 1), rfl, by omega, hp26, hinv', hp28, hokL', hA169, by rw [List.map_append]; exact Mail.snoc hp31 (by omega) (by have := (Op.mk kind prio limit label proto).enc_len (hinv'.2.1 _ (List.mem_append.2 (.inr (List.mem_singleton.2 rfl)))).2.2; omega) hvg hvn hvm hsq148, hp32, hp33, by omega, by rw [List.length_append]; simp only [List.length_cons, List.length_nil]; omega, hH174, hT36, hT37, hT38, hT39, hT40, rfl, hT42, rfl⟩
     ·
      refine C_region ?_
      refine O_p (.p (some (T16, 0))) (r_mv hT40) ?_
      refine O_p (.sl (some (ob, 0)) n oc 0) (r_mv hT36) ?_
      refine O_p (.i .i64 (((i : Nat)) : Int)) (r_mv hT43) ?_
      refine O_p (.p (some (ob, (i * 5 + 0)))) (by exact (r_islr (b := ob) (k := i) (len := n) (cap := oc) (g := 0) rfl rfl (by omega))) ?_
      refine O_p (.agg [(.i .u8 kind), (.i .u16 prio), (.i .u32 limit), (.s (txt label)), (.s (txt proto))]) (r_ldA rfl (Hs.ro hok0 hH47.top8 hob) (rec_take (j := 0) (m := 5) hrec rfl)) ?_
      have hH175 := (((hH47.top8).top8).top8)
      refine O_call (Ev.mono (ask2_ev (cs := c2) hok0 htb0 kind prio limit label proto hk hp hl hll hpl (Nat.le_of_eq hp27.1.1) hH175) fun v176 H177 hq178 => ?_)
      rw [ask_same hE] at hq178
      obtain ⟨o179, c180, rfl, hsq181, hcap182, hH183⟩ := hq178
      refine pv (.tup [(.i .u16 (askS c2 false kind label proto)), o179, (.i .i64 (askE c2 false kind label proto))]) rfl ?_
      refine O_p (.i .u16 (askS c2 false kind label proto)) (r_ext rfl rfl) ?_
      refine O_p o179 (r_ext rfl rfl) ?_
      refine O_p (.i .i64 (askE c2 false kind label proto)) (r_ext rfl rfl) ?_
      refine pv (.i .u16 (askS c2 false kind label proto)) rfl ?_
      refine pv o179 rfl ?_
      refine pv (.i .i64 (askE c2 false kind label proto)) rfl ?_
      refine O_nil ?_
      refine C_seq ?_
      refine sr ?_
      refine pv (.i .i64 (askE c2 false kind label proto)) rfl ?_
      refine O_p (.b true) (by exact (by rw [r_neq rfl rfl, decide_eq_false (by first | omega | assumption)]; rfl)) ?_
      refine O_nil ?_
      refine C_cond (x := true) rfl (fun _ => ?_) (fun h => by cases h)
      refine C_exit ?_
      refine nx_exit ?_
      refine bk_hit ?_
      refine C_region ?_
      refine O_p (.i .i64 (((i : Nat)) : Int)) (r_mv hT43) ?_
      refine O_p (.i .i64 ((((i : Nat)) : Int) + 1)) (by exact (r_addi rfl rfl (wrap_i64 (by omega) (by omega)))) ?_
      refine pv (.i .i64 ((((i : Nat)) : Int) + 1)) rfl ?_
      refine O_nil ?_
      have hH184 := (hH183.sub0)
      have hH185 := (((((((((hH184.top5).top6).top5).top6).top6).top6).top6).top8).top8)
      exact ⟨n - (i + 1), by omega, c1, c2, aa, bb, o8, q8, l8, D8, o9, q9, l9, D9, (i + 1), rfl, by omega, hp26, hp27, hp28, hp29, hp30, hp31, hp32, hp33, by omega, by omega, hH185, hT36, hT37, hT38, hT39, hT40, hT41, hT42, rfl⟩
  ·
   have hr186 := hc45
   try simp only [decide_eq_true_eq, decide_eq_false_iff_not, Bool.not_eq_true', Bool.not_eq_false', Bool.and_eq_true, Bool.or_eq_true, Bool.or_eq_false_iff, Bool.not_not, Bool.and_eq_false_iff] at hc45
   refine C_exit ?_
   refine nx_exit ?_
   refine nx_exit ?_
   refine bk_hit ?_
   refine C_seq ?_
   refine sr ?_
   refine pv (.i .i64 0) rfl ?_
   refine O_nil ?_
   refine C_block ?_
   have hi : i = n := by omega
   obtain ⟨s1, cc1, ee, hp1, hp2, hp3, hp4, hfin⟩ := apart hp26 hp27
   refine C_loop ?_
   refine C_seq ?_
   refine sr ?_
   refine pv (.i .i64 0) rfl ?_
   refine O_p (.b true) (by exact (by rw [r_lss rfl rfl, decide_eq_true (by first | omega | assumption)])) ?_
   refine O_nil ?_
   refine C_cond (x := true) rfl (fun _ => ?_) (fun h => by cases h)
   refine C_skip ?_
   refine C_seq ?_
   refine C_block ?_
   refine sr ?_
   refine O_p (.p (some (T16, 0))) (r_mv hT40) ?_
   refine O_p o9 (r_mv hT42) ?_
   have hH187 := (((((hH44.top7).top5).top5).top5).top8)
   have hH188 := (Hs.join3 hH187)
   refine O_call (Ev.mono (pass_ev (Tb.ofAD hok0 htb0) hp29 (Nat.le_of_eq hp27.1.1) hp32 (hp33.mono (fun H' h => h.sub)) (by first | (rw [List.length_map]; omega) | (simp only [List.length_map, List.length_nil]; omega)) hp1 hH188) fun v189 H190 hq191 => ?_)
   obtain ⟨o192, co193, lo194, Dn195, rfl, hsq196, hml197, hokL198, hle199, hH200⟩ := hq191
   have hH201 := (hH200.assoc4)
   have hH202 := (hH201.sub5)
   refine pv (.tup [o192, (.b true)]) rfl ?_
   refine O_p o192 (r_ext rfl rfl) ?_
   refine O_p (.b true) (r_ext rfl rfl) ?_
   refine pv o192 rfl ?_
   refine pv (.b true) rfl ?_
   refine O_nil (sr ?_)
   refine O_p (.p (some (T10, 0))) (r_mv hT39) ?_
   refine O_p o8 (r_mv hT41) ?_
   have hH203 := (((((hH202.top7).top5).top7).top7).top8)
   have hH204 := (Hs.join3 hH203)
   refine O_call (Ev.mono (pass_ev (Tb.ofAD hok0 htb0) hp28 (Nat.le_of_eq hp26.1.1) hp30 (hp31.mono (fun H' h => h.sub)) (by first | (rw [List.length_map]; omega) | (simp only [List.length_map, List.length_nil]; omega)) hp2 hH204) fun v205 H206 hq207 => ?_)
   obtain ⟨o208, co209, lo210, Dn211, rfl, hsq212, hml213, hokL214, hle215, hH216⟩ := hq207
   have hH217 := (hH216.assoc4)
   have hH218 := (hH217.sub5)
   refine pv (.tup [o208, (.b true)]) rfl ?_
   refine O_p o208 (r_ext rfl rfl) ?_
   refine O_p (.b true) (r_ext rfl rfl) ?_
   refine pv o208 rfl ?_
   refine pv (.b true) rfl ?_
   refine O_nil ?_
   refine C_seq ?_
   refine sr ?_
   refine pv (.b true) rfl ?_
   refine O_p (.b false) (r_un rfl rfl) ?_
   refine pv (.b false) rfl ?_
   refine O_gk rfl ?_
   refine pv (.b true) rfl ?_
   refine O_gk rfl ?_
   refine O_p (.b false) (r_un rfl rfl) ?_
   refine O_p (.b false) (r_pick_f rfl rfl) ?_
   refine O_nil ?_
   refine C_cond (x := false) rfl (fun h => by cases h) (fun _ => ?_)
   refine C_skip ?_
   refine sr ?_
   refine pv o192 rfl ?_
   refine pv o192 rfl ?_
   refine O_nil ?_
   refine C_region ?_
   refine pv o208 rfl ?_
   refine pv o208 rfl ?_
   refine O_nil ?_
   refine C_region ?_
   refine pv (.i .i64 0) rfl ?_
   refine O_p (.i .i64 1) (r_bin rfl rfl rfl) ?_
   refine pv (.i .i64 1) rfl ?_
   refine O_nil ?_
   refine C_loop ?_
   refine C_seq ?_
   refine sr ?_
   refine pv (.i .i64 1) rfl ?_
   refine O_p (.b true) (by exact (by rw [r_lss rfl rfl, decide_eq_true (by first | omega | assumption)])) ?_
   refine O_nil ?_
   refine C_cond (x := true) rfl (fun _ => ?_) (fun h => by cases h)
   refine C_skip ?_
   refine C_seq ?_
   refine C_block ?_
   refine sr ?_
   refine O_p (.p (some (T16, 0))) (r_mv hT40) ?_
   refine pv o208 rfl ?_
   have hH219 := ((((hH218.top4).top8).top8).top4)
   have hH220 := (Hs.join3 hH219)
   refine O_call (Ev.mono (pass_ev (Tb.ofAD hok0 htb0) hokL198 hle199 hsq212 (hml213.mono (fun H' h => h.sub)) (by first | (rw [List.length_map]; omega) | (simp only [List.length_map, List.length_nil]; omega)) hp3 hH220) fun v221 H222 hq223 => ?_)
   obtain ⟨o224, co225, lo226, Dn227, rfl, hsq228, hml229, hokL230, hle231, hH232⟩ := hq223
   have hH233 := (hH232.assoc4)
   have hH234 := (hH233.sub5)
   refine pv (.tup [o224, (.b true)]) rfl ?_
   refine O_p o224 (r_ext rfl rfl) ?_
   refine O_p (.b true) (r_ext rfl rfl) ?_
   refine pv o224 rfl ?_
   refine pv (.b true) rfl ?_
   refine O_nil (sr ?_)
   refine O_p (.p (some (T10, 0))) (r_mv hT39) ?_
   refine pv o192 rfl ?_
   have hH235 := (((((hH234.top7).top5).top7).top7).top8)
   have hH236 := (Hs.join3 hH235)
   refine O_call (Ev.mono (pass_ev (Tb.ofAD hok0 htb0) hokL214 hle215 hsq196 (hml197.mono (fun H' h => h.sub)) (by first | (rw [List.length_map]; omega) | (simp only [List.length_map, List.length_nil]; omega)) hp4 hH236) fun v237 H238 hq239 => ?_)
   obtain ⟨o240, co241, lo242, Dn243, rfl, hsq244, hml245, hokL246, hle247, hH248⟩ := hq239
   have hH249 := (hH248.assoc4)
   have hH250 := (hH249.sub5)
   refine pv (.tup [o240, (.b true)]) rfl ?_
   refine O_p o240 (r_ext rfl rfl) ?_
   refine O_p (.b true) (r_ext rfl rfl) ?_
   refine pv o240 rfl ?_
   refine pv (.b true) rfl ?_
   refine O_nil ?_
   refine C_seq ?_
   refine sr ?_
   refine pv (.b true) rfl ?_
   refine O_p (.b false) (r_un rfl rfl) ?_
   refine pv (.b false) rfl ?_
   refine O_gk rfl ?_
   refine pv (.b true) rfl ?_
   refine O_gk rfl ?_
   refine O_p (.b false) (r_un rfl rfl) ?_
   refine O_p (.b false) (r_pick_f rfl rfl) ?_
   refine O_nil ?_
   refine C_cond (x := false) rfl (fun h => by cases h) (fun _ => ?_)
   refine C_skip ?_
   refine sr ?_
   refine pv o224 rfl ?_
   refine pv o224 rfl ?_
   refine O_nil ?_
   refine C_region ?_
   refine pv o240 rfl ?_
   refine pv o240 rfl ?_
   refine O_nil ?_
   refine C_region ?_
   refine pv (.i .i64 1) rfl ?_
   refine O_p (.i .i64 2) (r_bin rfl rfl rfl) ?_
   refine pv (.i .i64 2) rfl ?_
   refine O_nil ?_
   refine C_loop ?_
   refine C_seq ?_
   refine sr ?_
   refine pv (.i .i64 2) rfl ?_
   refine O_p (.b false) (by exact (by rw [r_lss rfl rfl, decide_eq_false (by first | omega | assumption)])) ?_
   refine O_nil ?_
   refine C_cond (x := false) rfl (fun h => by cases h) (fun _ => ?_)
   refine C_exit ?_
   refine nx_exit ?_
   refine nx_exit ?_
   refine bk_hit ?_
   refine C_seq ?_
   refine sr ?_
   refine pv (.i .i64 0) rfl ?_
   refine O_nil ?_
   refine C_block ?_
   have hH251 := ((hH250.sub0).sub4)
   have hH252 := ((((((hH251.top4).top4).top6).top6).top6).top6)
   refine C_while (fun m253 T254 H255 => ∃ m : Nat, m253 = 64 - m ∧ m ≤ 64 ∧ Hs H255 ([(T10, some (.cells ([(.sl (some (L11, 0)) (ee).length (ee).length 0), (.b true)]) true))] ++ ([(L11, some (.cells (((ee).map Ch.row).flatten) true))] ++ ([(T16, some (.cells ([(.sl (some (L17, 0)) (ee).length (ee).length 0), (.b false)]) true))] ++ ([(L17, some (.cells (((ee).map Ch.row).flatten) true))] ++ ((allL H0) ++ ((qseg o224 co225) ++ ((qseg o240 co241) ++ ([])))))))) ∧ T254.get 5 = (.b true) ∧ T254.get 6 = (.p (some (T10, 0))) ∧ T254.get 7 = (.p (some (T16, 0))) ∧ T254.get 8 = o224 ∧ T254.get 9 = o240 ∧ T254.get 21 = (.i .i64 (((m : Nat)) : Int))) (fun m253 T254 H255 hI256 => ?_) 64 _ _ ⟨0, rfl, by omega, hH252, hT38, hT39, hT40, rfl, rfl, rfl⟩
   obtain ⟨m, hm257, hp258, hH265, hT259, hT260, hT261, hT262, hT263, hT264⟩ := hI256
   refine C_seq ?_
   refine sr ?_
   refine O_p (.i .i64 (((m : Nat)) : Int)) (r_mv hT264) ?_
   refine O_p (.b (decide ((((m : Nat)) : Int) < 64))) (r_lss rfl rfl) ?_
   refine O_nil ?_
   refine C_cond (x := (decide ((((m : Nat)) : Int) < 64))) rfl (fun hc266 => ?_) (fun hc266 => ?_)
   ·
    have hr267 := hc266
    try simp only [decide_eq_true_eq, decide_eq_false_iff_not, Bool.not_eq_true', Bool.not_eq_false', Bool.and_eq_true, Bool.or_eq_true, Bool.or_eq_false_iff, Bool.not_not, Bool.and_eq_false_iff] at hc266
    refine C_skip ?_
    refine C_seq ?_
    refine C_block ?_
    refine sr ?_
    refine O_p (.p (some (T10, 0))) (r_mv hT260) ?_
    refine O_p (.i .i64 (((m : Nat)) : Int)) (r_mv hT264) ?_
    refine O_p (.i .u16 ((m : Nat) : Int)) (by exact (r_cint' rfl (by rw [wrap_u16]; omega))) ?_
    have hH268 := ((hH265.top1).top1)
    refine O_call (Ev.mono (state_ev (cs := ee) (k := m) (by omega) hle247 hH268) fun v269 H270 hq271 => ?_)
    obtain ⟨rfl, hq271⟩ := hq271
    subst H270
    refine O_p (.p (some (T16, 0))) (r_mv hT261) ?_
    refine O_p (.i .i64 (((m : Nat)) : Int)) (r_mv hT264) ?_
    refine O_p (.i .u16 ((m : Nat) : Int)) (by exact (r_cint' rfl (by rw [wrap_u16]; omega))) ?_
    have hH272 := ((hH268.top3).top3)
    refine O_call (Ev.mono (state_ev (cs := ee) (k := m) (by omega) hle231 hH272) fun v273 H274 hq275 => ?_)
    obtain ⟨rfl, hq275⟩ := hq275
    subst H274
    refine O_p (.b false) (r_nqq rfl rfl) ?_
    refine pv (.b false) rfl ?_
    refine O_gk rfl ?_
    refine O_p (.p (some (T10, 0))) (r_mv hT260) ?_
    refine O_gk rfl ?_
    refine O_p (.i .i64 (((m : Nat)) : Int)) (r_mv hT264) ?_
    refine O_gk rfl ?_
    refine O_p (.i .u16 ((m : Nat) : Int)) (by exact (r_cint' rfl (by rw [wrap_u16]; omega))) ?_
    refine O_gk rfl ?_
    have hH276 := ((hH272.top3).top3)
    refine O_call (Ev.mono (state_ev (cs := ee) (k := m) (by omega) hle247 hH276) fun v277 H278 hq279 => ?_)
    obtain ⟨rfl, hq279⟩ := hq279
    subst H278
    refine O_gk rfl ?_
    refine O_p (.b false) (by exact (by rw [r_eql rfl rfl, decide_eq_false (hfin _)])) ?_
    refine O_p (.b false) (r_pick_f rfl rfl) ?_
    refine pv (.b false) rfl ?_
    refine O_gk rfl ?_
    refine O_p (.p (some (T10, 0))) (r_mv hT260) ?_
    refine O_gk rfl ?_
    refine O_p (.i .i64 (((m : Nat)) : Int)) (r_mv hT264) ?_
    refine O_gk rfl ?_
    refine O_p (.i .u16 ((m : Nat) : Int)) (by exact (r_cint' rfl (by rw [wrap_u16]; omega))) ?_
    refine O_gk rfl ?_
    have hH280 := ((hH276.top1).top1)
    refine O_call (Ev.mono (openg_ev (cs := ee) (k := m) (by omega) hle247 hH280) fun v281 H282 hq283 => ?_)
    obtain ⟨rfl, hH284⟩ := hq283
    refine O_gk rfl ?_
    refine O_p (.p (some (T16, 0))) (r_mv hT261) ?_
    refine O_gk rfl ?_
    refine O_p (.i .i64 (((m : Nat)) : Int)) (r_mv hT264) ?_
    refine O_gk rfl ?_
    refine O_p (.i .u16 ((m : Nat) : Int)) (by exact (r_cint' rfl (by rw [wrap_u16]; omega))) ?_
    refine O_gk rfl ?_
    have hH285 := ((hH284.top3).top3)
    refine O_call (Ev.mono (openg_ev (cs := ee) (k := m) (by omega) hle231 hH285) fun v286 H287 hq288 => ?_)
    obtain ⟨rfl, hH289⟩ := hq288
    refine O_gk rfl ?_
    refine O_call (Ev.mono (theirs_ev hH289.ok (((ee).getD m ch0).kind) (((ee).getD m ch0).prio) (((ee).getD m ch0).limit) (((ee).getD m ch0).label) (((ee).getD m ch0).proto)) fun v290 H291 hq292 => ?_)
    obtain ⟨rfl, hK293⟩ := hq292
    have hH294 := (hH289.kp hK293)
    refine O_gk rfl ?_
    refine O_call (Ev.mono (alike_ev hH294.ok (((ee).getD m ch0).kind) (((ee).getD m ch0).prio) (((ee).getD m ch0).limit) (((ee).getD m ch0).label) (((ee).getD m ch0).proto)) fun v295 H296 hq297 => ?_)
    obtain ⟨rfl, hK298⟩ := hq297
    have hH299 := (hH294.kp hK298)
    refine O_gk rfl ?_
    refine O_p (.b false) (r_un rfl rfl) ?_
    refine O_p (.b false) (r_pick_f rfl rfl) ?_
    refine O_nil ?_
    refine C_cond (x := false) rfl (fun h => by cases h) (fun _ => ?_)
    refine C_skip ?_
    refine C_region ?_
    refine O_p (.i .i64 (((m : Nat)) : Int)) (r_mv hT264) ?_
    refine O_p (.i .i64 ((((m : Nat)) : Int) + 1)) (by exact (r_addi rfl rfl (wrap_i64 (by omega) (by omega)))) ?_
    refine pv (.i .i64 ((((m : Nat)) : Int) + 1)) rfl ?_
    refine O_nil ?_
    have hH300 := (((((((hH299.top6).top6).top6).top4).top4).top6).top6)
    exact ⟨64 - (m + 1), by omega, (m + 1), rfl, by omega, hH300, hT259, hT260, hT261, hT262, hT263, rfl⟩
   ·
    have hr301 := hc266
    try simp only [decide_eq_true_eq, decide_eq_false_iff_not, Bool.not_eq_true', Bool.not_eq_false', Bool.and_eq_true, Bool.or_eq_true, Bool.or_eq_false_iff, Bool.not_not, Bool.and_eq_false_iff] at hc266
    refine C_exit ?_
    refine nx_exit ?_
    refine nx_exit ?_
    refine bk_hit ?_
    refine sr ?_
    refine O_p (.b true) (r_mv hT259) ?_
    refine pv (.b true) rfl ?_
    refine O_gk rfl ?_
    refine O_p o224 (r_mv hT262) ?_
    refine O_gk rfl ?_
    refine O_p (.i .i64 0) (by exact (by exact r_lenOf rfl (hsq228.lenOf hml229.1 (by decide)) hsq228.isSl)) ?_
    refine O_gk rfl ?_
    refine O_p (.b true) (by exact (by rw [r_eql rfl rfl, decide_eq_true (by first | omega | assumption)])) ?_
    refine O_p (.b true) (r_pick_t rfl rfl) ?_
    refine pv (.b true) rfl ?_
    refine O_gk rfl ?_
    refine O_p o240 (r_mv hT263) ?_
    refine O_gk rfl ?_
    refine O_p (.i .i64 0) (by exact (by exact r_lenOf rfl (hsq244.lenOf hml245.1 (by decide)) hsq244.isSl)) ?_
    refine O_gk rfl ?_
    refine O_p (.b true) (by exact (by rw [r_eql rfl rfl, decide_eq_true (by first | omega | assumption)])) ?_
    refine O_p (.b true) (r_pick_t rfl rfl) ?_
    refine pv (.b true) rfl ?_
    refine O_nil ?_
    refine C_ret ?_
    exact ⟨.inr rfl, _, resL_one (r_tmp (v := .b true) rfl), rfl⟩
set_option maxRecDepth 100000 in
theorem oprec8 {H : AH} : ∀ l, Typed Tryd.prog H 8 25 l → ∃ kind prio limit label proto, l = [(.i .u8 kind), (.i .u16 prio), (.i .u32 limit), (.s (txt label)), (.s (txt proto))] ∧ (0 ≤ kind ∧ kind < 256) ∧ (0 ≤ prio ∧ prio < 65536) ∧ (0 ≤ limit ∧ limit < 4294967296) ∧ label.length ≤ maxLen ∧ proto.length ≤ maxLen := by
  intro l h
  obtain ⟨hl, oq⟩ := struct_parts (qs := [(5, 0, 1), (22, 1, 1), (23, 2, 1), (9, 3, 1), (9, 4, 1)]) Tryd.underlying25 h (by kernel_rfl)
  rw [show Tryd.prog.cellsOf 25 = 5 by kernel_rfl] at hl
  obtain ⟨y0, y1, y2, y3, y4, rfl⟩ : ∃ a b c d e, l = [a, b, c, d, e] := by
    match l, hl with
    | [a, b, c, d, e], _ => exact ⟨a, b, c, d, e, rfl⟩
  simp only [List.forall_mem_cons, List.drop_zero, List.drop_succ_cons, List.take_succ_cons, List.take_zero] at oq
  obtain ⟨o0, o1, o2, o3, o4, _⟩ := oq
  obtain ⟨kind, f0, w0⟩ := typed_int Tryd.underlying5 o0
  obtain ⟨prio, f1, w1⟩ := typed_int Tryd.underlying22 o1
  obtain ⟨limit, f2, w2⟩ := typed_int Tryd.underlying23 o2
  obtain ⟨ls, f3, w3⟩ := typed_string Tryd.underlying9 o3
  obtain ⟨pr, f4, w4⟩ := typed_string Tryd.underlying9 o4
  cases f0; cases f1; cases f2; cases f3; cases f4
  obtain ⟨label, rfl⟩ := txt_ex ls
  obtain ⟨proto, rfl⟩ := txt_ex pr
  rw [txt_size] at w3 w4
  exact ⟨kind, prio, limit, label, proto, rfl, wfU8 w0, wfU16 w1, wfU32 w2, w3, w4⟩
set_option maxRecDepth 100000 in
theorem run8T (H : AH) (hok : H.Ok) (htb : Tb H) {v w : AV} (h : Typed Tryd.prog H 9 58 [v]) (h2 : Typed Tryd.prog H 9 59 [w]) : Ev tabV spV (.fn (.func 8) [] []) [v, w] H (fun v _ => v = .b true) := by
 obtain ⟨a, n, c, rfl, hnc, hcm, ha⟩ := typed_recs (z := 5) Tryd.underlying58 (by kernel_rfl) h
 obtain ⟨b, m, d, rfl, hmd, hdm, hb⟩ := typed_recs (z := 1) Tryd.underlying59 (by kernel_rfl) h2
 exact run8 H hok htb a n c b m d (Typed Tryd.prog H 8 25) (Typed Tryd.prog H 8 4) ha oprec8 hb (fun l hl => typed_bool Tryd.underlying4 hl)
set_option maxRecDepth 100000 in
theorem law8 (W : World) (ρ : Rho) (H : AH) (xs : List AV) (args : Array Value) (hR : Rel Tryd.prog W.heap.size W ρ H W) (hro : RO H) (hT : ∀ n b, tabs0.get n = some b → H.get n = some b) (hv : VRL ρ xs args.toList) (ht : TypedVs Tryd.prog H 9 Tryd.f8.params.toList xs) :
  Calls Tryd.prog 8 args W fun e w' => e = .returned (.bool true) ∧ Below W.heap.size W w' := by
 rw [Tryd.params8] at ht
 obtain ⟨a0, xs, rfl, g0, a1, xs, rfl, g1, rfl⟩ := ht
 obtain ⟨k, v, H', hex, rfl⟩ := run8T H hR.aok (Tb.of hT) (typedV_slice Tryd.underlying58 g0) (typedV_slice Tryd.underlying59 g1)
 exact law_of mixed tabV_ok spV_ok hex hR hv
end Go.Proofs.YtfhbdddjclodhaaDoor.E
namespace Go.Proofs.YtfhbdddjclodhaaDoor.dcepApart
open Go.ChangeShapes Go.WideShapes Go.RowKit Go.ChangeAt
set_option linter.unusedVariables false
theorem types : (Tryd.f8.params.toList.all fun t => E.fit Tryd.prog 9 t && (Tryd.prog.readableRec t && decide (t < Tryd.prog.types.size))) = true := by kernel_rfl
set_option maxRecDepth 100000 in
theorem lifted (os : Os) (started : os.Started) (H : Type) (enc : TypeId × Value → H) :
    ReturnsInHanded {} Tryd.checked os 8 .any (fun w args => (Rows.dcepApartSpec.pre enc Tryd.prog Tryd.f8 Rows.dcepApartRow.domain false w args ∧ laidMetH Tryd.prog E.laid18 w) ∧ sizedMet enc Tryd.prog Tryd.f8 (OpenSpec.ofChange Rows.dcepApartSpec) false w args) (Rows.dcepApartSpec.post enc Tryd.prog Tryd.f8 false true false false) :=
  E.law_liftedG (C := Tryd.checked) (k := 9) (tb := 4) (X := fun w => laidMetH Tryd.prog E.laid18 w) E.laid (fun _ _ hh h => h.of_heap hh) (fun W h => E.Rel.tabs E.globals2 (E.tabs18 h)) E.tabs0_ro E.own18 started (by kernel_rfl) Tryd.func8
    (ChangeSpec.witness_shaped (enc := enc) (C := Tryd.checked) (os := os) (X := fun w _ => laidMetH Tryd.prog E.laid18 w) false (World.laidAll Tryd.prog os E.laid18) #[.slice none 0 0, .slice none 0 0] 8 (World.laidAll_os _ _ _)
      (World.shaped_of_ZipB (by kernel_rfl) (by kernel_rfl)) (by kernel_rfl) (by kernel_rfl) (by kernel_rfl)
      (by rw [MakeChecks.laidMetH_plain _ _ _ (by kernel_rfl)]; exact laidMet_laidAll _ (by kernel_rfl) (by kernel_rfl)))
    rfl rfl Tryd.underlying4 (fun t ht => by have h := List.all_eq_true.1 types t ht; simp only [Bool.and_eq_true, decide_eq_true_eq] at h; exact h)
    (fun ds hd => by
      rw [Tryd.params8] at hd
      match ds, hd with
      | [d0, d1], _ => rfl) E.law8
theorem over : Rows.dcepApartRow.holds Tryd.pinned (OpenSpec.ofChange Rows.dcepApartSpec) :=
 OpenClaim.holds_of_wide 8 Tryd.f8 rfl rfl rfl rfl rfl rfl rfl ⟨rfl, rfl, rfl, rfl, rfl⟩ rfl rfl rfl rfl rfl (by kernel_rfl) Tryd.func8 (by kernel_rfl)
  (of_decide_eq_true (by kernel_rfl)) (by unfold Func.isWrapper; first | (rw [if_pos (by decide +kernel)]; kernel_rfl) | (rw [if_neg (by decide +kernel)]; exact ⟨rfl, rfl⟩))
  (fun os started H enc _ => lifted os started H enc)
theorem card : Claim7.holds Tryd.pinned (.plain (OpenSpec.ofChange Rows.dcepApartSpec)) Rows.dcepApartCard :=
 Claim7.holds_tied_plain_at .later [] [.data, .pinned] true (true, "840fe89f1718999666760e2798cb68f93cfa0fb72f9e95c902c9bbcf5ac830c4") false over (fun _ h => by cases h) (by kernel_rfl) (fun _ h => by cases h) dcepApart_row_tie rfl ⟨rfl, rfl⟩ (by kernel_rfl) rfl
  (fun f fn hf hfn => by
   obtain rfl : f = 8 := Option.some.inj ((show Tryd.prog.funcNamed "bollard/bollardlaw18.DcepApart" = some 8 by kernel_rfl).symm.trans hf) |>.symm
   obtain rfl : fn = Tryd.f8 := (Option.some.inj (Tryd.func8.symm.trans hfn)).symm
   exact ⟨by kernel_rfl, fun j t ht => by
    rw [Tryd.params8] at ht
    have hm : t ∈ [58, 59] := by simpa using Array.mem_of_getElem? ht
    have hall : ([58, 59].all fun u => !Tryd.prog.wantsStandIn u) = true := by kernel_rfl
    exact (show Tryd.prog.wantsStandIn t = false by simpa using List.all_eq_true.1 hall t hm)⟩)
  (by kernel_rfl)
end Go.Proofs.YtfhbdddjclodhaaDoor.dcepApart
namespace Go.Proofs.YtfhbdddjclodhaaDoor
/-- The card, under a short name, for the claim. -/
theorem dcepApart_holds : Rows.DcepApartCardSaid := dcepApart.card
#print axioms dcepApart_holds
end Go.Proofs.YtfhbdddjclodhaaDoor
