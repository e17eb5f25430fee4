/- Operations in a row, calls too: in the evaluator and on the machine. It bears no condition. -/
import Derived.Test.YtjheedfobmlalaaE13
namespace Go.Proofs.Ytjheedfobmlalaa.E
open Go.RowKit (Below)
set_option linter.unusedVariables false
set_option linter.unusedSimpArgs false

def Fw (ro : Option Nat) : Fence := { Fence.wide with round := ro }

/-- A call, or a round, that comes to its end. -/
def CallRes (P : Program) (fv : Value) (as : Array Value) (w : World) (R : Ending → World → Prop) : Prop :=
  (∃ g first cap fn, fv = .func (.func g) first cap ∧ P.funcs[g]? = some fn ∧ fn.body.isSome = true ∧ (fn.name == "runtime.NumGoroutine") = false ∧ ∀ n, CallsIn Fence.wide n P g (first ++ as ++ cap) w R) ∨
  (∃ l f tmps asg body, fv = .func (.yield l) #[] #[] ∧ (Instr.yield l as).run P w = .ok (.round l f tmps asg body) w ∧ ∀ n, RoundIn Fence.wide n P l f tmps asg body w R)

/-- What the evaluator's calls give, the machine's give. -/
def CallOK (P : Program) (call : CallF) : Prop := ∀ f args H v H', call f args H = some (v, H') → ∀ B w0 ρ w fv as, Rel P B w0 ρ H w → VR ρ f fv → VRL ρ args as.toList →
  CallRes P fv as w fun e w' => ∃ cv ρ', e = .returned cv ∧ VR ρ' v cv ∧ Rel P B w0 ρ' H' w' ∧ St ρ H w ρ' H' w'

section
variable {P : Program} {B : Nat} {w0 w : World} {ρ : Rho} {H : AH} {N : Nat} {T : Tm} {tmps : Array Value} {ds : List Deferred} {ro : Option Nat} {n : Nat}

theorem VR_bool_inv {v : AV} {b : Bool} (h : VR ρ v (.bool b)) : v = .b b := by
  cases v with
  | b x => have := VR_b h; simp at this; rw [this]
  | i k n => have := VR_i h; simp at this
  | s x => have := VR_s h; simp at this
  | p a =>
    cases a with
    | none => simp [VR] at h
    | some a => obtain ⟨k, o, s, _, h⟩ := VR_p h; cases h
  | sl a n m g =>
    cases a with
    | none => simp [VR] at h
    | some a => simp [VR] at h
  | m r =>
    cases r with
    | none => simp [VR] at h
    | some a => simp [VR] at h
  | fn f a b => simp [VR] at h
  | nf => simp [VR] at h
  | agg l => simp [VR] at h
  | tup l => simp [VR] at h

theorem wanted_ok (hT : TR ρ N T tmps) {ops : Array Oper} {o : Oper} {g : Option (Nat × Bool)} (hg : cGuard ops o = some g) {x : XOper} (hx : x.guard = g) :
    Region.wanted o (yielded ops tmps) = x.wanted T := by
  unfold cGuard at hg
  unfold Region.wanted XOper.wanted
  rw [hx]
  cases ho : o.guard with
  | none => rw [ho] at hg; simp at hg; subst hg; rfl
  | some p =>
    obtain ⟨j, want⟩ := p
    rw [ho] at hg
    simp only at hg
    cases hd : (ops[j]?).bind (·.dst) with
    | none => simp [hd] at hg
    | some d =>
      simp only [hd, Option.some.injEq] at hg; subst hg
      simp only [yielded, hd, Option.bind_some]
      have ht := hT.2 d
      cases htm : tmps[d]? with
      | none =>
        simp only [Array.getD_eq_getD_getElem?, htm, Option.getD_none] at ht
        cases hv : T.get d with
        | b y => rw [hv] at ht; have := VR_b ht; simp [undef] at this
        | _ => rfl
      | some c =>
        simp only [Array.getD_eq_getD_getElem?, htm, Option.getD_some] at ht
        cases hv : T.get d with
        | b y => rw [hv] at ht; rw [VR_b ht]; simp
        | _ =>
          rw [hv] at ht
          cases c with
          | bool z => have := VR_bool_inv ht; simp at this
          | _ => rfl

theorem callsIn_fw {g : FuncId} {args : Array Value} {R : Ending → World → Prop} (h : CallsIn Fence.wide n P g args w R) : CallsIn (Fw ro) n P g args w R := h
theorem roundIn_fw {l : Nat} {g : FuncId} {tmps : Array Value} {asg body : Code} {R : Ending → World → Prop} (h : RoundIn Fence.wide n P l g tmps asg body w R) : RoundIn (Fw ro) n P l g tmps asg body w R := h

/-- One operation, on the machine. -/
def OpOK (P : Program) (B : Nat) (w0 : World) (ro : Option Nat) (n : Nat) (o : Oper) (a : Act) (ρ : Rho) (H : AH) (w : World) (v : AV) (H' : AH) : Prop :=
  ∀ (K : Act → World → Prop) (Q : Exit → Act → World → Prop), (∀ cv w' ρ', VR ρ' v cv → Rel P B w0 ρ' H' w' → St ρ H w ρ' H' w' → K (a.put o.dst cv) w') → o.wpIn (Fw ro) n P a w K Q

theorem cOp_not_defer {o : Op} {q : XOp} (h : cOp P o = some q) (c : Call) : o ≠ .defer c := by rintro rfl; simp [cOp] at h

theorem op_ok {call : CallF} (hcall : CallOK P call) (hR : Rel P B w0 ρ H w) (hT : TR ρ N T tmps) {o : Oper} {v : AV} {H' : AH} (h : (cOpD P o.op).run call T H = some (v, H')) : OpOK P B w0 ro n o ⟨tmps, ds⟩ ρ H w v H' := by
  unfold cOpD at h
  cases hc : cOp P o.op with
  | none => simp [hc, XOp.run, XOp.look] at h
  | some q =>
    simp only [hc, Option.getD_some] at h
    intro K Q hK
    refine ⟨fun _ _ => trivial, ?_⟩
    rw [Oper.semAt_eq _ _ _ (cOp_not_defer hc)]
    by_cases hq : ∃ f l, q = .call f l
    · obtain ⟨f, l, rfl⟩ := hq
      simp only [XOp.run] at h
      obtain ⟨dst, op, ty, pos, af, gd⟩ := o
      simp only at hc
      cases op with
      | call c =>
        simp only [cOp] at hc
        split at hc
        · rename_i f0 hf0
          split at hc
          · rename_i f' l' h1 h2
            simp only [Option.some.injEq, XOp.call.injEq] at hc
            obtain ⟨rfl, rfl⟩ := hc
            have hf := cX_ok (ds := ds) hR hT h1
            have hl := cXL_ok (ds := ds) hR hT h2
            have hres := hcall _ _ _ _ _ h B w0 ρ w (Act.eval ⟨tmps, ds⟩ f0) (c.args.map (Act.eval ⟨tmps, ds⟩)) hR hf (by simpa using hl)
            rcases hres with ⟨g, first, cap, fn, hfv, hfn, hbody, hname, hcalls⟩ | ⟨l0, f1, tm1, asg, body, hfv, hy, hround⟩
            · have hrun : (execOp (Act.eval ⟨tmps, ds⟩) ⟨dst, .call c, ty, pos, af, gd⟩).run P w = .ok (.enter g (first ++ c.args.map (Act.eval ⟨tmps, ds⟩) ++ cap)) w := by
                simp only [execOp, resolve, hf0, hfv, Deferred.ofValue, Sem.run_bind, Sem.run_pure, Result.andThen_ok, invoke, callFunc, run_program, hfn, hname, Bool.false_eq_true, if_false]
                rw [if_neg (by cases hb : fn.body <;> simp_all)]
                rfl
              rw [hrun]
              refine ⟨(fun h => by cases h), ?_⟩
              refine CallsIn.mono (callsIn_fw (hcalls (n - 1))) ?_
              rintro e w' ⟨cv, ρ', rfl, h1, h2, h3⟩
              exact hK cv w' ρ' h1 h2 h3
            · have hrun : (execOp (Act.eval ⟨tmps, ds⟩) ⟨dst, .call c, ty, pos, af, gd⟩).run P w = .ok (.round l0 f1 tm1 asg body) w := by
                simp only [execOp, resolve, hf0, hfv, Deferred.ofValue, Sem.run_bind, Sem.run_pure, Result.andThen_ok, invoke]
                simpa using hy
              rw [hrun]
              refine ⟨(fun h => by cases h), ?_⟩
              refine RoundIn.mono (roundIn_fw (hround (n - 1))) ?_
              rintro e w' ⟨cv, ρ', rfl, h1, h2, h3⟩
              exact hK cv w' ρ' h1 h2 h3
          · cases hc
        · rename_i b hb
          exfalso
          unfold cBuiltin at hc
          (repeat' split at hc) <;> first | (cases hc; done) | (simp only [Option.some.injEq, reduceCtorEq] at hc; done) | (simp only [Option.map_eq_some_iff] at hc; obtain ⟨_, _, hc⟩ := hc; cases hc; done) |
            (simp only [Option.bind_eq_some_iff] at hc; obtain ⟨_, _, hc⟩ := hc; split at hc <;> first | (cases hc; done) | (simp only [Option.some.injEq, reduceCtorEq] at hc; done))
        · cases hc
      | binOp bop xt x y yt => simp only [cOp] at hc; have := (cBin_not hc).1; simp [XOp.eff] at this
      | convert s d x =>
        exfalso
        simp only [cOp, cConv] at hc
        (repeat' split at hc) <;> first | (cases hc; done) | (simp only [Option.some.injEq, reduceCtorEq] at hc; done)
      | _ =>
        exfalso
        simp only [cOp] at hc
        (repeat' split at hc) <;> first | (cases hc; done) | (simp only [Option.some.injEq, reduceCtorEq] at hc; done) | (simp only [Option.map_eq_some_iff] at hc; obtain ⟨_, _, hc⟩ := hc; cases hc; done) |
          (simp only [Option.bind_eq_some_iff, Option.map_eq_some_iff] at hc; obtain ⟨_, _, _, _, hc⟩ := hc; cases hc; done) |
          (simp only [Option.bind_eq_some_iff] at hc; obtain ⟨_, _, hc⟩ := hc; split at hc <;> first | (cases hc; done) | (simp only [Option.some.injEq, reduceCtorEq] at hc; done))
    · obtain ⟨r, w', ρ', hr, hv, h1, h2⟩ := run_ok (ds := ds) hR hT hc (fun f l e => hq ⟨f, l, e⟩) h
      rw [hr]
      rcases hv with ⟨c, rfl, hv⟩ | ⟨rfl, rfl⟩
      · exact hK c w' ρ' hv h1 h2
      · exact hK undef w' ρ' VR_und h1 h2

/-- Operations one after another. -/
theorem runOps_ok {call : CallF} (hcall : CallOK P call) {ops : Array Oper} {bef : Nat → List Nat} : ∀ (is : List Nat) (l : List XOper), cOpers P N ops bef is = some l → ∀ {T T' : Tm} {H H' : AH} {ρ : Rho} {w : World} {tmps : Array Value},
    Rel P B w0 ρ H w → TR ρ N T tmps → runOps call l T H = some (T', H') → ∀ (Q : Exit → Act → World → Prop), (∀ ρ' w' tmps', Rel P B w0 ρ' H' w' → TR ρ' N T' tmps' → St ρ H w ρ' H' w' → Q .normal ⟨tmps', ds⟩ w') →
    wpOpsIn (Fw ro) n P ops Q is ⟨tmps, ds⟩ w
  | [], l, hc, T, T', H, H', ρ, w, tmps, hR, hT, h, Q, hQ => by
    simp [cOpers] at hc; subst hc
    simp [runOps] at h
    obtain ⟨rfl, rfl⟩ := h
    exact hQ ρ w tmps hR hT (St.refl ρ H w)
  | i :: is, l, hc, T, T', H, H', ρ, w, tmps, hR, hT, h, Q, hQ => by
    simp only [cOpers] at hc
    split at hc
    · rename_i o ho
      split at hc
      · rename_i g l' hg hl
        split at hc
        · rename_i hd
          simp only [Option.some.injEq] at hc; subst hc
          simp only [wpOpsIn, ho]
          simp only [runOps] at h
          rw [wanted_ok hT hg (x := ⟨o.dst, cOpD P o.op, g, i, bef i⟩) rfl]
          split at h
          · rename_i hw
            rw [if_pos hw]
            split at h
            · rename_i v H1 hrun
              refine op_ok hcall hR hT hrun _ _ fun cv w' ρ' h1 h2 h3 => ?_
              have := (TR_mono h3.ext hT).put (ds := ds) hd h1
              have hput : ({ tmps := tmps, defers := ds } : Act).put o.dst cv = ⟨(({ tmps := tmps, defers := ds } : Act).put o.dst cv).tmps, ds⟩ := by cases o.dst <;> rfl
              rw [hput]
              exact runOps_ok hcall is l' hl h2 this h Q fun ρ'' w'' t'' k1 k2 k3 => hQ ρ'' w'' t'' k1 k2 (h3.trans k3)
            · cases h
          · rename_i hw
            rw [if_neg hw]
            refine ⟨fun _ _ => trivial, ?_⟩
            have := hT.put (ds := ds) hd (VR_und (ρ := ρ))
            have hput : ({ tmps := tmps, defers := ds } : Act).put o.dst undef = ⟨(({ tmps := tmps, defers := ds } : Act).put o.dst undef).tmps, ds⟩ := by cases o.dst <;> rfl
            rw [hput]
            exact runOps_ok hcall is l' hl hR this h Q hQ
        · cases hc
      · cases hc
    · cases hc
end
end Go.Proofs.Ytjheedfobmlalaa.E
