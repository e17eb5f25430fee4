/- The document's UTF-8, walked. It bears no condition. -/
import Derived.Test.YtfhbdddjclodhaaDoorG
import Derived.Test.YtfhbdddjclodhaaDoorE40
import Derived.Test.YtfhbdddjclodhaaDoorO
namespace Go.Proofs.YtfhbdddjclodhaaDoor.E

open Go.Lib
set_option linter.unusedVariables false
set_option linter.unusedSimpArgs false
def btw (l : List UInt8) (k : Nat) (lo hi : Int) : Bool := (decide (((k : Nat) : Int) < ((l.length : Nat) : Int)) && decide (lo ≤ ((l.getD k 0).toNat : Int))) && decide (((l.getD k 0).toNat : Int) ≤ hi)
def oneL (l : List UInt8) : Nat :=
 if btw l 0 0 127 then 1 else if btw l 0 194 223 && btw l 1 128 191 then 2 else if !btw l 2 128 191 then 0
 else if (btw l 0 224 224 && btw l 1 160 191) || (btw l 0 237 237 && btw l 1 128 159) then 3
 else if (btw l 0 225 236 || btw l 0 238 239) && btw l 1 128 191 then 3 else if !btw l 3 128 191 then 0
 else if (btw l 0 240 240 && btw l 1 144 191) || ((btw l 0 241 243 && btw l 1 128 191) || (btw l 0 244 244 && btw l 1 128 143)) then 4 else 0
def oneP (n x0 x1 x2 x3 : Nat) : Nat :=
 if x0 ≤ 127 then 1 else if (194 ≤ x0 ∧ x0 ≤ 223) ∧ (1 < n ∧ 128 ≤ x1 ∧ x1 ≤ 191) then 2 else if ¬ (2 < n ∧ 128 ≤ x2 ∧ x2 ≤ 191) then 0
 else if (x0 = 224 ∧ 1 < n ∧ 160 ≤ x1 ∧ x1 ≤ 191) ∨ (x0 = 237 ∧ 1 < n ∧ 128 ≤ x1 ∧ x1 ≤ 159) then 3
 else if ((225 ≤ x0 ∧ x0 ≤ 236) ∨ (238 ≤ x0 ∧ x0 ≤ 239)) ∧ 1 < n ∧ 128 ≤ x1 ∧ x1 ≤ 191 then 3 else if ¬ (3 < n ∧ 128 ≤ x3 ∧ x3 ≤ 191) then 0
 else if (x0 = 240 ∧ 1 < n ∧ 144 ≤ x1 ∧ x1 ≤ 191) ∨ ((241 ≤ x0 ∧ x0 ≤ 243) ∧ 1 < n ∧ 128 ≤ x1 ∧ x1 ≤ 191) ∨ (x0 = 244 ∧ 1 < n ∧ 128 ≤ x1 ∧ x1 ≤ 143) then 4 else 0
theorem oneL_P (l : List UInt8) (hl : 0 < l.length) : oneL l = oneP l.length (l.getD 0 0).toNat (l.getD 1 0).toNat (l.getD 2 0).toNat (l.getD 3 0).toNat := by
  unfold oneL oneP btw
  generalize (l.getD 0 0).toNat = x0
  generalize (l.getD 1 0).toNat = x1
  generalize (l.getD 2 0).toNat = x2
  generalize (l.getD 3 0).toNat = x3
  generalize l.length = n at *
  have ite : ∀ (b : Bool) (p : Prop) [Decidable p] (u v u' v' : Nat), (b = true ↔ p) → u = u' → v = v' → (if b = true then u else v) = if p then u' else v' := by
    intro b p _ u v u' v' h h1 h2
    by_cases hp : p
    · rw [if_pos (h.2 hp), if_pos hp, h1]
    · rw [if_neg (fun hb => hp (h.1 hb)), if_neg hp, h2]
  repeat' (first | rfl | (apply ite))
  all_goals (simp only [Bool.and_eq_true, Bool.or_eq_true, decide_eq_true_eq, Bool.not_eq_true', Bool.and_eq_false_iff, decide_eq_false_iff_not]; omega)
theorem check_iff (n x0 x1 x2 x3 sz lo hi : Nat) (hn : 0 < n) (h : (sz = 2 ∧ lo = 128 ∧ hi = 191 ∧ 194 ≤ x0 ∧ x0 ≤ 223) ∨ (sz = 3 ∧ ((lo = 160 ∧ hi = 191 ∧ x0 = 224) ∨ (lo = 128 ∧ hi = 159 ∧ x0 = 237) ∨ (lo = 128 ∧ hi = 191 ∧ (225 ≤ x0 ∧ x0 ≤ 236 ∨ 238 ≤ x0 ∧ x0 ≤ 239)))) ∨ (sz = 4 ∧ ((lo = 144 ∧ hi = 191 ∧ x0 = 240) ∨ (lo = 128 ∧ hi = 191 ∧ 241 ≤ x0 ∧ x0 ≤ 243) ∨ (lo = 128 ∧ hi = 143 ∧ x0 = 244))) ∨ (sz < 2 ∧ 128 ≤ x0 ∧ (x0 < 194 ∨ 245 ≤ x0))) :
    match checkN n x1 x2 x3 sz lo hi with | none => oneP n x0 x1 x2 x3 = 0 | some k => oneP n x0 x1 x2 x3 = k ∧ k ≠ 0 ∧ k ≤ n := by
  unfold checkN
  by_cases h2 : sz = 2
  · rw [if_pos h2]
    have h' : lo = 128 ∧ hi = 191 ∧ 194 ≤ x0 ∧ x0 ≤ 223 := by omega
    obtain ⟨rfl, rfl, h3, h4⟩ := h'
    clear h
    split <;> rename_i hc <;> split at hc <;> cases hc <;> unfold oneP
    · rw [if_neg (by omega), if_neg (by omega)]
      split
      · rfl
      · rw [if_neg (by omega), if_neg (by omega)]
        split
        · rfl
        · rw [if_neg (by omega)]
    · rw [if_neg (by omega), if_pos (by omega)]; omega
  · rw [if_neg h2]
    by_cases h3 : sz = 3
    · rw [if_pos h3]
      have h' : (lo = 160 ∧ hi = 191 ∧ x0 = 224) ∨ (lo = 128 ∧ hi = 159 ∧ x0 = 237) ∨ (lo = 128 ∧ hi = 191 ∧ (225 ≤ x0 ∧ x0 ≤ 236 ∨ 238 ≤ x0 ∧ x0 ≤ 239)) := by omega
      clear h
      split <;> rename_i hc <;> split at hc <;> cases hc <;> unfold oneP
      · rw [if_neg (by omega), if_neg (by omega)]
        split
        · rfl
        · rw [if_neg (by omega), if_neg (by omega)]
          split
          · rfl
          · rw [if_neg (by omega)]
      · rw [if_neg (by omega), if_neg (by omega), if_neg (by omega)]
        split
        · omega
        · rw [if_pos (by omega)]; omega
    · rw [if_neg h3]
      by_cases h4 : sz = 4
      · rw [if_pos h4]
        have h' : (lo = 144 ∧ hi = 191 ∧ x0 = 240) ∨ (lo = 128 ∧ hi = 191 ∧ 241 ≤ x0 ∧ x0 ≤ 243) ∨ (lo = 128 ∧ hi = 143 ∧ x0 = 244) := by omega
        clear h
        split <;> rename_i hc <;> split at hc <;> cases hc <;> unfold oneP
        · rw [if_neg (by omega), if_neg (by omega)]
          split
          · rfl
          · rw [if_neg (by omega), if_neg (by omega)]
            split
            · rfl
            · rw [if_neg (by omega)]
        · rw [if_neg (by omega), if_neg (by omega), if_neg (by omega), if_neg (by omega), if_neg (by omega), if_neg (by omega), if_pos (by omega)]; omega
      · rw [if_neg h4]
        show oneP n x0 x1 x2 x3 = 0
        unfold oneP
        rw [if_neg (by omega), if_neg (by omega)]
        split
        · rfl
        · rw [if_neg (by omega), if_neg (by omega)]
          split
          · rfl
          · rw [if_neg (by omega)]
theorem first_kinds (x0 : Nat) (h : 128 ≤ x0) (h2 : x0 < 256) : (firstT x0 % 8 = 2 ∧ accLo (firstT x0 / 16) = 128 ∧ accHi (firstT x0 / 16) = 191 ∧ 194 ≤ x0 ∧ x0 ≤ 223) ∨ (firstT x0 % 8 = 3 ∧ ((accLo (firstT x0 / 16) = 160 ∧ accHi (firstT x0 / 16) = 191 ∧ x0 = 224) ∨ (accLo (firstT x0 / 16) = 128 ∧ accHi (firstT x0 / 16) = 159 ∧ x0 = 237) ∨ (accLo (firstT x0 / 16) = 128 ∧ accHi (firstT x0 / 16) = 191 ∧ (225 ≤ x0 ∧ x0 ≤ 236 ∨ 238 ≤ x0 ∧ x0 ≤ 239)))) ∨ (firstT x0 % 8 = 4 ∧ ((accLo (firstT x0 / 16) = 144 ∧ accHi (firstT x0 / 16) = 191 ∧ x0 = 240) ∨ (accLo (firstT x0 / 16) = 128 ∧ accHi (firstT x0 / 16) = 191 ∧ 241 ≤ x0 ∧ x0 ≤ 243) ∨ (accLo (firstT x0 / 16) = 128 ∧ accHi (firstT x0 / 16) = 143 ∧ x0 = 244))) ∨ (firstT x0 % 8 < 2 ∧ 128 ≤ x0 ∧ (x0 < 194 ∨ 245 ≤ x0)) := by
  have key : ∀ f, firstT x0 = f → (accLo (f / 16) = accLo (f / 16)) := fun _ _ => rfl
  by_cases c0 : x0 < 194
  · right; right; right; rw [show firstT x0 = 241 by unfold firstT; rw [if_neg (by omega), if_pos c0]]; omega
  by_cases c1 : x0 < 224
  · left; rw [show firstT x0 = 2 by unfold firstT; rw [if_neg (by omega), if_neg c0, if_pos c1]]; exact ⟨rfl, rfl, rfl, by omega, by omega⟩
  by_cases c2 : x0 = 224
  · subst c2; right; left; exact ⟨rfl, .inl ⟨rfl, rfl, rfl⟩⟩
  by_cases c3 : x0 < 237
  · right; left; rw [show firstT x0 = 3 by unfold firstT; rw [if_neg (by omega), if_neg c0, if_neg c1, if_neg c2, if_pos c3]]; exact ⟨rfl, .inr (.inr ⟨rfl, rfl, by omega⟩)⟩
  by_cases c4 : x0 = 237
  · subst c4; right; left; exact ⟨rfl, .inr (.inl ⟨rfl, rfl, rfl⟩)⟩
  by_cases c5 : x0 < 240
  · right; left; rw [show firstT x0 = 3 by unfold firstT; rw [if_neg (by omega), if_neg c0, if_neg c1, if_neg c2, if_neg c3, if_neg c4, if_pos c5]]; exact ⟨rfl, .inr (.inr ⟨rfl, rfl, by omega⟩)⟩
  by_cases c6 : x0 = 240
  · subst c6; right; right; left; exact ⟨rfl, .inl ⟨rfl, rfl, rfl⟩⟩
  by_cases c7 : x0 < 244
  · right; right; left; rw [show firstT x0 = 4 by unfold firstT; rw [if_neg (by omega), if_neg c0, if_neg c1, if_neg c2, if_neg c3, if_neg c4, if_neg c5, if_neg c6, if_pos c7]]; exact ⟨rfl, .inr (.inl ⟨rfl, rfl, by omega, by omega⟩)⟩
  by_cases c8 : x0 = 244
  · subst c8; right; right; left; exact ⟨rfl, .inr (.inr ⟨rfl, rfl, rfl⟩)⟩
  right; right; right; rw [show firstT x0 = 241 by unfold firstT; rw [if_neg (by omega), if_neg c0, if_neg c1, if_neg c2, if_neg c3, if_neg c4, if_neg c5, if_neg c6, if_neg c7, if_neg c8]]; omega
theorem oneL_valid (l : List UInt8) (hne : l ≠ []) : (oneL l = 0 → validD l = false) ∧ (oneL l ≠ 0 → validD l = validD (l.drop (oneL l))) ∧ oneL l ≤ l.length := by
  have hl : 0 < l.length := List.length_pos_iff.2 hne
  rw [oneL_P l hl]
  by_cases ha : (l.getD 0 0).toNat < 128
  · have e : oneP l.length (l.getD 0 0).toNat (l.getD 1 0).toNat (l.getD 2 0).toNat (l.getD 3 0).toNat = 1 := if_pos (by omega)
    rw [e]
    refine ⟨fun h => (by cases h), fun _ => ?_, hl⟩
    match l, hne, ha with
    | b :: t, _, ha => rw [validD_cons b t (by simpa using ha)]; rfl
  · rw [validD_lead l hne (by omega)]
    have h := check_iff l.length (l.getD 0 0).toNat (l.getD 1 0).toNat (l.getD 2 0).toNat (l.getD 3 0).toNat _ _ _ hl (first_kinds (l.getD 0 0).toNat (by omega) (l.getD 0 0).toNat_lt)
    split at h
    · rename_i hc; rw [hc, h]; exact ⟨fun _ => rfl, fun h => absurd rfl h, Nat.zero_le _⟩
    · rename_i k hc; obtain ⟨h1, h2, h3⟩ := h; rw [hc, h1]; exact ⟨fun h => absurd h h2, fun _ => rfl, h3⟩
theorem between_ev {H : AH} (hok : H.Ok) (l : List UInt8) (k : Nat) (lo hi : Int) : Ev tabV spV (.fn (.func 72) [] []) [.s (txt l), .i .i64 k, .i .u8 lo, .i .u8 hi] H (fun r H' => r = .b (btw l k lo hi) ∧ H' = H) := by
 refine Ev_C (F := x72) rfl ?_
 have hO0 := Old.refl hok
 refine sr ?_
 refine pv (.b false) rfl ?_
 refine O_nil (sr ?_)
 refine pv (.i .i64 (((k : Nat)) : Int)) rfl ?_
 refine pv (.s (txt l)) rfl ?_
 refine O_p (.i .i64 ((((l).length : Nat)) : Int)) (r_lent (l := l) rfl) ?_
 refine O_p (.b (decide ((((k : Nat)) : Int) < ((((l).length : Nat)) : Int)))) (r_lss rfl rfl) ?_
 refine pv (.b (decide ((((k : Nat)) : Int) < ((((l).length : Nat)) : Int)))) rfl ?_
 refine O_gx (e := (decide ((((k : Nat)) : Int) < ((((l).length : Nat)) : Int)))) (v := (.s (txt l))) (wt rfl) (fun he => (r_mv rfl)) ?_
 refine O_gx (e := (decide ((((k : Nat)) : Int) < ((((l).length : Nat)) : Int)))) (v := (.i .i64 (((k : Nat)) : Int))) (wt rfl) (fun he => (r_mv rfl)) ?_
 refine O_gx (e := (decide ((((k : Nat)) : Int) < ((((l).length : Nat)) : Int)))) (v := (.i .u8 ((l.getD k 0).toNat : Int))) (wt rfl) (fun he => (by exact (r_idxt (l := l) (n := k) (cond_pos he) (cond_pos he) (by simp only [decide_eq_true_eq, Bool.and_eq_true] at he; omega)))) ?_
 refine O_gx (e := (decide ((((k : Nat)) : Int) < ((((l).length : Nat)) : Int)))) (v := (.i .u8 lo)) (wt rfl) (fun he => (r_mv rfl)) ?_
 refine O_gx (e := (decide ((((k : Nat)) : Int) < ((((l).length : Nat)) : Int)))) (v := (.b (decide (lo ≤ ((l.getD k 0).toNat : Int))))) (wt rfl) (fun he => (r_geq (cond_pos he) (cond_pos he))) ?_
 refine O_p (.b ((decide ((((k : Nat)) : Int) < ((((l).length : Nat)) : Int))) && (decide (lo ≤ ((l.getD k 0).toNat : Int))))) (r_pick_and rfl rfl rfl rfl) ?_
 refine pv (.b ((decide ((((k : Nat)) : Int) < ((((l).length : Nat)) : Int))) && (decide (lo ≤ ((l.getD k 0).toNat : Int))))) rfl ?_
 refine O_gx (e := ((decide ((((k : Nat)) : Int) < ((((l).length : Nat)) : Int))) && (decide (lo ≤ ((l.getD k 0).toNat : Int))))) (v := (.s (txt l))) (wt rfl) (fun he => (r_mv rfl)) ?_
 refine O_gx (e := ((decide ((((k : Nat)) : Int) < ((((l).length : Nat)) : Int))) && (decide (lo ≤ ((l.getD k 0).toNat : Int))))) (v := (.i .i64 (((k : Nat)) : Int))) (wt rfl) (fun he => (r_mv rfl)) ?_
 refine O_gx (e := ((decide ((((k : Nat)) : Int) < ((((l).length : Nat)) : Int))) && (decide (lo ≤ ((l.getD k 0).toNat : Int))))) (v := (.i .u8 ((l.getD k 0).toNat : Int))) (wt rfl) (fun he => (by exact (r_idxt (l := l) (n := k) (cond_pos he) (cond_pos he) (by simp only [decide_eq_true_eq, Bool.and_eq_true] at he; omega)))) ?_
 refine O_gx (e := ((decide ((((k : Nat)) : Int) < ((((l).length : Nat)) : Int))) && (decide (lo ≤ ((l.getD k 0).toNat : Int))))) (v := (.i .u8 hi)) (wt rfl) (fun he => (r_mv rfl)) ?_
 refine O_gx (e := ((decide ((((k : Nat)) : Int) < ((((l).length : Nat)) : Int))) && (decide (lo ≤ ((l.getD k 0).toNat : Int))))) (v := (.b (decide (((l.getD k 0).toNat : Int) ≤ hi)))) (wt rfl) (fun he => (r_leq (cond_pos he) (cond_pos he))) ?_
 refine O_p (.b (((decide ((((k : Nat)) : Int) < ((((l).length : Nat)) : Int))) && (decide (lo ≤ ((l.getD k 0).toNat : Int)))) && (decide (((l.getD k 0).toNat : Int) ≤ hi)))) (r_pick_and rfl rfl rfl rfl) ?_
 refine pv (.b (((decide ((((k : Nat)) : Int) < ((((l).length : Nat)) : Int))) && (decide (lo ≤ ((l.getD k 0).toNat : Int)))) && (decide (((l.getD k 0).toNat : Int) ≤ hi)))) rfl ?_
 refine O_nil ?_
 refine C_ret ?_
 exact ⟨.inr rfl, _, resL_one (r_tmp (v := (.b (((decide ((((k : Nat)) : Int) < ((((l).length : Nat)) : Int))) && (decide (lo ≤ ((l.getD k 0).toNat : Int)))) && (decide (((l.getD k 0).toNat : Int) ≤ hi))))) rfl), rfl, rfl⟩
theorem one_ev {H : AH} (hok : H.Ok) (l : List UInt8) : Ev tabV spV (.fn (.func 71) [] []) [.s (txt l)] H (fun r H' => r = .i .i64 (oneL l : Nat) ∧ H' = H) := by
 refine Ev_C (F := x71) rfl ?_
 have hO0 := Old.refl hok
 refine sr ?_
 refine pv (.i .i64 0) rfl ?_
 refine O_nil ?_
 refine C_seq ?_
 refine C_block ?_
 refine sr ?_
 refine pv (.s (txt l)) rfl ?_
 refine O_call (Ev.mono (between_ev hok l 0 0 127) fun v1 H2 hq3 => ?_)
 obtain ⟨rfl, hq3⟩ := hq3
 subst H2
 refine pv (.b (btw l 0 0 127)) rfl ?_
 refine O_nil ?_
 refine C_cond (x := (btw l 0 0 127)) rfl (fun hc4 => ?_) (fun hc4 => ?_)
 ·
  have hr5 := hc4
  refine sr ?_
  refine pv (.i .i64 1) rfl ?_
  refine O_nil ?_
  refine C_ret ?_
  refine bk_ret ?_
  refine nx_ret ?_
  exact ⟨.inr rfl, _, resL_one (r_tmp (v := (.i .i64 1)) rfl), by show AV.i .i64 _ = _; simp only [oneL, hc4, if_true, if_false, Bool.or_true, Bool.true_or, Bool.false_or, Bool.or_false, Bool.false_eq_true]; rfl, rfl⟩
 ·
  have hr6 := hc4
  refine sr ?_
  refine pv (.s (txt l)) rfl ?_
  refine O_call (Ev.mono (between_ev hok l 0 194 223) fun v7 H8 hq9 => ?_)
  obtain ⟨rfl, hq9⟩ := hq9
  subst H8
  refine pv (.b (btw l 0 194 223)) rfl ?_
  refine O_gx (e := (btw l 0 194 223)) (v := (.s (txt l))) (wt rfl) (fun he => (r_mv rfl)) ?_
  refine O_gc2 (e := (btw l 0 194 223)) (v := (.b (btw l 1 128 191))) (as' := [(.s (txt l)), (.i .i64 1), (.i .u8 128), (.i .u8 191)]) (wt rfl) (fun he => by exact (cons_eq (cond_pos he) (cons_eq rfl (cons_eq rfl (cons_eq rfl rfl))))) (fun he => (between_ev hok l 1 128 191)) ?_
  refine O_p (.b ((btw l 0 194 223) && (btw l 1 128 191))) (r_pick_and rfl rfl rfl rfl) ?_
  refine pv (.b ((btw l 0 194 223) && (btw l 1 128 191))) rfl ?_
  refine O_nil ?_
  refine C_cond (x := ((btw l 0 194 223) && (btw l 1 128 191))) rfl (fun hc10 => ?_) (fun hc10 => ?_)
  ·
   have hr11 := hc10
   refine sr ?_
   refine pv (.i .i64 2) rfl ?_
   refine O_nil ?_
   refine C_ret ?_
   refine bk_ret ?_
   refine nx_ret ?_
   exact ⟨.inr rfl, _, resL_one (r_tmp (v := (.i .i64 2)) rfl), by show AV.i .i64 _ = _; simp only [oneL, hc4, hc10, if_true, if_false, Bool.or_true, Bool.true_or, Bool.false_or, Bool.or_false, Bool.false_eq_true]; rfl, rfl⟩
  ·
   have hr12 := hc10
   refine sr ?_
   refine pv (.s (txt l)) rfl ?_
   refine O_call (Ev.mono (between_ev hok l 2 128 191) fun v13 H14 hq15 => ?_)
   obtain ⟨rfl, hq15⟩ := hq15
   subst H14
   refine O_p (.b (!(btw l 2 128 191))) (r_not rfl) ?_
   refine pv (.b (!(btw l 2 128 191))) rfl ?_
   refine O_nil ?_
   refine C_cond (x := (!(btw l 2 128 191))) rfl (fun hc16 => ?_) (fun hc16 => ?_)
   ·
    have hr17 := hc16
    refine sr ?_
    refine pv (.i .i64 0) rfl ?_
    refine O_nil ?_
    refine C_ret ?_
    refine bk_ret ?_
    refine nx_ret ?_
    exact ⟨.inr rfl, _, resL_one (r_tmp (v := (.i .i64 0)) rfl), by show AV.i .i64 _ = _; simp only [oneL, hc4, hc10, hc16, if_true, if_false, Bool.or_true, Bool.true_or, Bool.false_or, Bool.or_false, Bool.false_eq_true]; rfl, rfl⟩
   ·
    have hr18 := hc16
    refine C_seq ?_
    refine sr ?_
    refine pv (.s (txt l)) rfl ?_
    refine O_call (Ev.mono (between_ev hok l 0 224 224) fun v19 H20 hq21 => ?_)
    obtain ⟨rfl, hq21⟩ := hq21
    subst H20
    refine pv (.b (btw l 0 224 224)) rfl ?_
    refine O_gx (e := (btw l 0 224 224)) (v := (.s (txt l))) (wt rfl) (fun he => (r_mv rfl)) ?_
    refine O_gc2 (e := (btw l 0 224 224)) (v := (.b (btw l 1 160 191))) (as' := [(.s (txt l)), (.i .i64 1), (.i .u8 160), (.i .u8 191)]) (wt rfl) (fun he => by exact (cons_eq (cond_pos he) (cons_eq rfl (cons_eq rfl (cons_eq rfl rfl))))) (fun he => (between_ev hok l 1 160 191)) ?_
    refine O_p (.b ((btw l 0 224 224) && (btw l 1 160 191))) (r_pick_and rfl rfl rfl rfl) ?_
    refine pv (.b ((btw l 0 224 224) && (btw l 1 160 191))) rfl ?_
    refine O_nil ?_
    refine C_cond (x := ((btw l 0 224 224) && (btw l 1 160 191))) rfl (fun hc22 => ?_) (fun hc22 => ?_)
    ·
     have hr23 := hc22
     refine C_skip ?_
     refine C_cond (x := true) (Eq.trans rfl (congrArg AV.b hr23)) (fun _ => ?_) (fun h => by cases h)
     refine sr ?_
     refine pv (.i .i64 3) rfl ?_
     refine O_nil ?_
     refine C_ret ?_
     refine bk_ret ?_
     refine nx_ret ?_
     exact ⟨.inr rfl, _, resL_one (r_tmp (v := (.i .i64 3)) rfl), by show AV.i .i64 _ = _; simp only [oneL, hc4, hc10, hc16, hc22, if_true, if_false, Bool.or_true, Bool.true_or, Bool.false_or, Bool.or_false, Bool.false_eq_true]; rfl, rfl⟩
    ·
     have hr24 := hc22
     refine C_region ?_
     refine pv (.s (txt l)) rfl ?_
     refine O_call (Ev.mono (between_ev hok l 0 237 237) fun v25 H26 hq27 => ?_)
     obtain ⟨rfl, hq27⟩ := hq27
     subst H26
     refine pv (.b (btw l 0 237 237)) rfl ?_
     refine O_gx (e := (btw l 0 237 237)) (v := (.s (txt l))) (wt rfl) (fun he => (r_mv rfl)) ?_
     refine O_gc2 (e := (btw l 0 237 237)) (v := (.b (btw l 1 128 159))) (as' := [(.s (txt l)), (.i .i64 1), (.i .u8 128), (.i .u8 159)]) (wt rfl) (fun he => by exact (cons_eq (cond_pos he) (cons_eq rfl (cons_eq rfl (cons_eq rfl rfl))))) (fun he => (between_ev hok l 1 128 159)) ?_
     refine O_p (.b ((btw l 0 237 237) && (btw l 1 128 159))) (r_pick_and rfl rfl rfl rfl) ?_
     refine pv (.b ((btw l 0 237 237) && (btw l 1 128 159))) rfl ?_
     refine O_nil ?_
     refine C_cond (x := ((btw l 0 237 237) && (btw l 1 128 159))) rfl (fun hc28 => ?_) (fun hc28 => ?_)
     ·
      have hr29 := hc28
      refine sr ?_
      refine pv (.i .i64 3) rfl ?_
      refine O_nil ?_
      refine C_ret ?_
      refine bk_ret ?_
      refine nx_ret ?_
      exact ⟨.inr rfl, _, resL_one (r_tmp (v := (.i .i64 3)) rfl), by show AV.i .i64 _ = _; simp only [oneL, hc4, hc10, hc16, hc22, hc28, if_true, if_false, Bool.or_true, Bool.true_or, Bool.false_or, Bool.or_false, Bool.false_eq_true]; rfl, rfl⟩
     ·
      have hr30 := hc28
      refine sr ?_
      refine pv (.s (txt l)) rfl ?_
      refine O_call (Ev.mono (between_ev hok l 0 225 236) fun v31 H32 hq33 => ?_)
      obtain ⟨rfl, hq33⟩ := hq33
      subst H32
      refine pv (.b (btw l 0 225 236)) rfl ?_
      refine O_gx (e := (!(btw l 0 225 236))) (v := (.s (txt l))) (wf rfl) (fun he => (r_mv rfl)) ?_
      refine O_gc2 (e := (!(btw l 0 225 236))) (v := (.b (btw l 0 238 239))) (as' := [(.s (txt l)), (.i .i64 0), (.i .u8 238), (.i .u8 239)]) (wf rfl) (fun he => by exact (cons_eq (cond_pos he) (cons_eq rfl (cons_eq rfl (cons_eq rfl rfl))))) (fun he => (between_ev hok l 0 238 239)) ?_
      refine O_p (.b ((btw l 0 225 236) || (btw l 0 238 239))) (r_pick_or rfl rfl rfl rfl) ?_
      refine pv (.b ((btw l 0 225 236) || (btw l 0 238 239))) rfl ?_
      refine O_gx (e := ((btw l 0 225 236) || (btw l 0 238 239))) (v := (.s (txt l))) (wt rfl) (fun he => (r_mv rfl)) ?_
      refine O_gc2 (e := ((btw l 0 225 236) || (btw l 0 238 239))) (v := (.b (btw l 1 128 191))) (as' := [(.s (txt l)), (.i .i64 1), (.i .u8 128), (.i .u8 191)]) (wt rfl) (fun he => by exact (cons_eq (cond_pos he) (cons_eq rfl (cons_eq rfl (cons_eq rfl rfl))))) (fun he => (between_ev hok l 1 128 191)) ?_
      refine O_p (.b (((btw l 0 225 236) || (btw l 0 238 239)) && (btw l 1 128 191))) (r_pick_and rfl rfl rfl rfl) ?_
      refine pv (.b (((btw l 0 225 236) || (btw l 0 238 239)) && (btw l 1 128 191))) rfl ?_
      refine O_nil ?_
      refine C_cond (x := (((btw l 0 225 236) || (btw l 0 238 239)) && (btw l 1 128 191))) rfl (fun hc34 => ?_) (fun hc34 => ?_)
      ·
       have hr35 := hc34
       refine sr ?_
       refine pv (.i .i64 3) rfl ?_
       refine O_nil ?_
       refine C_ret ?_
       refine bk_ret ?_
       refine nx_ret ?_
       exact ⟨.inr rfl, _, resL_one (r_tmp (v := (.i .i64 3)) rfl), by show AV.i .i64 _ = _; simp only [oneL, hc4, hc10, hc16, hc22, hc28, hc34, if_true, if_false, Bool.or_true, Bool.true_or, Bool.false_or, Bool.or_false, Bool.false_eq_true]; rfl, rfl⟩
      ·
       have hr36 := hc34
       refine sr ?_
       refine pv (.s (txt l)) rfl ?_
       refine O_call (Ev.mono (between_ev hok l 3 128 191) fun v37 H38 hq39 => ?_)
       obtain ⟨rfl, hq39⟩ := hq39
       subst H38
       refine O_p (.b (!(btw l 3 128 191))) (r_not rfl) ?_
       refine pv (.b (!(btw l 3 128 191))) rfl ?_
       refine O_nil ?_
       refine C_cond (x := (!(btw l 3 128 191))) rfl (fun hc40 => ?_) (fun hc40 => ?_)
       ·
        have hr41 := hc40
        refine sr ?_
        refine pv (.i .i64 0) rfl ?_
        refine O_nil ?_
        refine C_ret ?_
        refine bk_ret ?_
        refine nx_ret ?_
        exact ⟨.inr rfl, _, resL_one (r_tmp (v := (.i .i64 0)) rfl), by show AV.i .i64 _ = _; simp only [oneL, hc4, hc10, hc16, hc22, hc28, hc34, hc40, if_true, if_false, Bool.or_true, Bool.true_or, Bool.false_or, Bool.or_false, Bool.false_eq_true]; rfl, rfl⟩
       ·
        have hr42 := hc40
        refine C_seq ?_
        refine sr ?_
        refine pv (.s (txt l)) rfl ?_
        refine O_call (Ev.mono (between_ev hok l 0 240 240) fun v43 H44 hq45 => ?_)
        obtain ⟨rfl, hq45⟩ := hq45
        subst H44
        refine pv (.b (btw l 0 240 240)) rfl ?_
        refine O_gx (e := (btw l 0 240 240)) (v := (.s (txt l))) (wt rfl) (fun he => (r_mv rfl)) ?_
        refine O_gc2 (e := (btw l 0 240 240)) (v := (.b (btw l 1 144 191))) (as' := [(.s (txt l)), (.i .i64 1), (.i .u8 144), (.i .u8 191)]) (wt rfl) (fun he => by exact (cons_eq (cond_pos he) (cons_eq rfl (cons_eq rfl (cons_eq rfl rfl))))) (fun he => (between_ev hok l 1 144 191)) ?_
        refine O_p (.b ((btw l 0 240 240) && (btw l 1 144 191))) (r_pick_and rfl rfl rfl rfl) ?_
        refine pv (.b ((btw l 0 240 240) && (btw l 1 144 191))) rfl ?_
        refine O_nil ?_
        refine C_cond (x := ((btw l 0 240 240) && (btw l 1 144 191))) rfl (fun hc46 => ?_) (fun hc46 => ?_)
        ·
         have hr47 := hc46
         refine C_skip ?_
         refine C_cond (x := true) (Eq.trans rfl (congrArg AV.b hr47)) (fun _ => ?_) (fun h => by cases h)
         refine sr ?_
         refine pv (.i .i64 4) rfl ?_
         refine O_nil ?_
         refine C_ret ?_
         refine bk_ret ?_
         refine nx_ret ?_
         exact ⟨.inr rfl, _, resL_one (r_tmp (v := (.i .i64 4)) rfl), by show AV.i .i64 _ = _; simp only [oneL, hc4, hc10, hc16, hc22, hc28, hc34, hc40, hc46, if_true, if_false, Bool.or_true, Bool.true_or, Bool.false_or, Bool.or_false, Bool.false_eq_true]; rfl, rfl⟩
        ·
         have hr48 := hc46
         refine sr ?_
         refine pv (.s (txt l)) rfl ?_
         refine O_call (Ev.mono (between_ev hok l 0 241 243) fun v49 H50 hq51 => ?_)
         obtain ⟨rfl, hq51⟩ := hq51
         subst H50
         refine pv (.b (btw l 0 241 243)) rfl ?_
         refine O_gx (e := (btw l 0 241 243)) (v := (.s (txt l))) (wt rfl) (fun he => (r_mv rfl)) ?_
         refine O_gc2 (e := (btw l 0 241 243)) (v := (.b (btw l 1 128 191))) (as' := [(.s (txt l)), (.i .i64 1), (.i .u8 128), (.i .u8 191)]) (wt rfl) (fun he => by exact (cons_eq (cond_pos he) (cons_eq rfl (cons_eq rfl (cons_eq rfl rfl))))) (fun he => (between_ev hok l 1 128 191)) ?_
         refine O_p (.b ((btw l 0 241 243) && (btw l 1 128 191))) (r_pick_and rfl rfl rfl rfl) ?_
         refine pv (.b ((btw l 0 241 243) && (btw l 1 128 191))) rfl ?_
         refine O_nil ?_
         refine C_cond (x := ((btw l 0 241 243) && (btw l 1 128 191))) rfl (fun hc52 => ?_) (fun hc52 => ?_)
         ·
          have hr53 := hc52
          refine C_skip ?_
          refine C_cond (x := true) (Eq.trans rfl (congrArg AV.b hr53)) (fun _ => ?_) (fun h => by cases h)
          refine sr ?_
          refine pv (.i .i64 4) rfl ?_
          refine O_nil ?_
          refine C_ret ?_
          refine bk_ret ?_
          refine nx_ret ?_
          exact ⟨.inr rfl, _, resL_one (r_tmp (v := (.i .i64 4)) rfl), by show AV.i .i64 _ = _; simp only [oneL, hc4, hc10, hc16, hc22, hc28, hc34, hc40, hc46, hc52, if_true, if_false, Bool.or_true, Bool.true_or, Bool.false_or, Bool.or_false, Bool.false_eq_true]; rfl, rfl⟩
         ·
          have hr54 := hc52
          refine C_region ?_
          refine pv (.s (txt l)) rfl ?_
          refine O_call (Ev.mono (between_ev hok l 0 244 244) fun v55 H56 hq57 => ?_)
          obtain ⟨rfl, hq57⟩ := hq57
          subst H56
          refine pv (.b (btw l 0 244 244)) rfl ?_
          refine O_gx (e := (btw l 0 244 244)) (v := (.s (txt l))) (wt rfl) (fun he => (r_mv rfl)) ?_
          refine O_gc2 (e := (btw l 0 244 244)) (v := (.b (btw l 1 128 143))) (as' := [(.s (txt l)), (.i .i64 1), (.i .u8 128), (.i .u8 143)]) (wt rfl) (fun he => by exact (cons_eq (cond_pos he) (cons_eq rfl (cons_eq rfl (cons_eq rfl rfl))))) (fun he => (between_ev hok l 1 128 143)) ?_
          refine O_p (.b ((btw l 0 244 244) && (btw l 1 128 143))) (r_pick_and rfl rfl rfl rfl) ?_
          refine pv (.b ((btw l 0 244 244) && (btw l 1 128 143))) rfl ?_
          refine O_nil ?_
          refine C_cond (x := ((btw l 0 244 244) && (btw l 1 128 143))) rfl (fun hc58 => ?_) (fun hc58 => ?_)
          ·
           have hr59 := hc58
           refine sr ?_
           refine pv (.i .i64 4) rfl ?_
           refine O_nil ?_
           refine C_ret ?_
           refine bk_ret ?_
           refine nx_ret ?_
           exact ⟨.inr rfl, _, resL_one (r_tmp (v := (.i .i64 4)) rfl), by show AV.i .i64 _ = _; simp only [oneL, hc4, hc10, hc16, hc22, hc28, hc34, hc40, hc46, hc52, hc58, if_true, if_false, Bool.or_true, Bool.true_or, Bool.false_or, Bool.or_false, Bool.false_eq_true]; rfl, rfl⟩
          ·
           have hr60 := hc58
           refine C_skip ?_
           refine sr ?_
           refine pv (.i .i64 0) rfl ?_
           refine O_nil ?_
           refine C_ret ?_
           exact ⟨.inr rfl, _, resL_one (r_tmp (v := (.i .i64 0)) rfl), by show AV.i .i64 _ = _; simp only [oneL, hc4, hc10, hc16, hc22, hc28, hc34, hc40, hc46, hc52, hc58, if_true, if_false, Bool.or_true, Bool.true_or, Bool.false_or, Bool.or_false, Bool.false_eq_true]; rfl, rfl⟩
theorem rvalid_ev {H : AH} (hok : H.Ok) (l : List UInt8) : Ev tabV spV (.fn (.func 65) [] []) [.s (txt l)] H (fun r H' => r = .b (validD l) ∧ H' = H) := by
 refine Ev_C (F := x65) rfl ?_
 have hO0 := Old.refl hok
 refine sr ?_
 refine pv (.b false) rfl ?_
 refine O_nil ?_
 refine C_seq ?_
 refine C_block ?_
 refine C_while (fun m1 T2 H3 => ∃ q : List UInt8, m1 = q.length ∧ validD q = validD l ∧ H3 = H ∧ T2.get 0 = (.s (txt q))) (fun m1 T2 H3 hI4 => ?_) l.length _ _ ⟨l, rfl, rfl, rfl, rfl⟩
 obtain ⟨q, hm5, hp6, hsame8, hT7⟩ := hI4
 subst H3
 have hps1 := hp6
 refine C_seq ?_
 refine sr ?_
 refine O_p (.s (txt q)) (r_mv hT7) ?_
 refine O_p (.i .i64 ((((q).length : Nat)) : Int)) (r_lent (l := q) rfl) ?_
 refine O_p (.b (decide (0 < ((((q).length : Nat)) : Int)))) (r_gtr rfl rfl) ?_
 refine O_nil ?_
 refine C_cond (x := (decide (0 < ((((q).length : Nat)) : Int)))) rfl (fun hc9 => ?_) (fun hc9 => ?_)
 ·
  simp only [decide_eq_true_eq, decide_eq_false_iff_not, Bool.not_eq_true', Bool.not_eq_false', Bool.and_eq_true, Bool.or_eq_true, Bool.or_eq_false_iff, Bool.not_not] at hc9
  have hq0 : q ≠ [] := List.length_pos_iff.1 (by omega)
  refine C_skip ?_
  refine C_block ?_
  refine sr ?_
  refine O_p (.s (txt q)) (r_mv hT7) ?_
  refine O_call (Ev.mono (one_ev hok q) fun v10 H11 hq12 => ?_)
  obtain ⟨rfl, hq12⟩ := hq12
  subst H11
  refine pv (.i .i64 ((((oneL q) : Nat)) : Int)) rfl ?_
  refine O_nil ?_
  refine C_seq ?_
  refine sr ?_
  refine pv (.i .i64 ((((oneL q) : Nat)) : Int)) rfl ?_
  refine O_p (.b (decide (((((oneL q) : Nat)) : Int) = 0))) (r_eql rfl rfl) ?_
  refine O_nil ?_
  refine C_cond (x := (decide (((((oneL q) : Nat)) : Int) = 0))) rfl (fun hc13 => ?_) (fun hc13 => ?_)
  ·
   simp only [decide_eq_true_eq, decide_eq_false_iff_not, Bool.not_eq_true', Bool.not_eq_false', Bool.and_eq_true, Bool.or_eq_true, Bool.or_eq_false_iff, Bool.not_not] at hc13
   have hz0 : oneL q = 0 := by omega
   have hv0 : validD l = false := by rw [← hps1]; exact (oneL_valid q hq0).1 hz0
   refine sr ?_
   refine pv (.b false) rfl ?_
   refine O_nil ?_
   refine C_ret ?_
   refine nx_ret ?_
   refine bk_ret ?_
   refine nx_ret ?_
   refine bk_ret ?_
   refine nx_ret ?_
   exact ⟨.inr rfl, _, resL_one (r_tmp (v := (.b false)) rfl), by rw [hv0]; rfl, rfl⟩
  ·
   simp only [decide_eq_true_eq, decide_eq_false_iff_not, Bool.not_eq_true', Bool.not_eq_false', Bool.and_eq_true, Bool.or_eq_true, Bool.or_eq_false_iff, Bool.not_not] at hc13
   have hn0 : oneL q ≠ 0 := by omega
   have hle := (oneL_valid q hq0).2.2
   have hdl : (q.drop (oneL q)).length = q.length - oneL q := List.length_drop
   refine C_skip ?_
   refine C_region ?_
   refine O_p (.s (txt q)) (r_mv hT7) ?_
   refine pv (.i .i64 ((((oneL q) : Nat)) : Int)) rfl ?_
   refine O_p (.s (txt (q.drop (oneL q)))) (by exact (r_slt_lo (l := q) (n := (oneL q)) rfl rfl (by first | omega | (simp only [List.length_set, List.length_append, List.length_cons, List.length_nil, List.length_take, List.length_drop] <;> omega)))) ?_
   refine pv (.s (txt (q.drop (oneL q)))) rfl ?_
   refine O_nil ?_
   exact ⟨(q.drop (oneL q)).length, by omega, (q.drop (oneL q)), rfl, (by rw [← hps1]; exact ((oneL_valid q hq0).2.1 hn0).symm), rfl, rfl⟩
 ·
  simp only [decide_eq_true_eq, decide_eq_false_iff_not, Bool.not_eq_true', Bool.not_eq_false', Bool.and_eq_true, Bool.or_eq_true, Bool.or_eq_false_iff, Bool.not_not] at hc9
  have hq1 : q = [] := List.eq_nil_of_length_eq_zero (by omega)
  have hv0 : validD l = true := by rw [← hps1, hq1]; rfl
  refine C_exit ?_
  refine nx_exit ?_
  refine nx_exit ?_
  refine bk_hit ?_
  refine sr ?_
  refine pv (.b true) rfl ?_
  refine O_nil ?_
  refine C_ret ?_
  exact ⟨.inr rfl, _, resL_one (r_tmp (v := (.b true)) rfl), by rw [hv0]; rfl, rfl⟩
end Go.Proofs.YtfhbdddjclodhaaDoor.E
