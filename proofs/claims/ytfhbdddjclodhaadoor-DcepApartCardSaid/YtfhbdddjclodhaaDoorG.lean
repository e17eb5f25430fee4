/- Layer 18: the tables of unicode/utf8 in this program, and ValidString's fact. It bears no condition. -/
import Derived.Test.YtfhbdddjclodhaaDoorX
import Derived.Test.YtfhbdddjclodhaaDoorE39
import Derived.Test.YtfhbdddjclodhaaDoorRows
namespace Go.Proofs.YtfhbdddjclodhaaDoor.E
open Go.Shelf Go.Lib
set_option linter.unusedVariables false
set_option linter.unusedSimpArgs false
def ren_f : Nat → Nat
  | 196 => 63
  | 259 => 70
  | n => n
def ren_t : Nat → Nat
  | 119 => 130
  | 46 => 125
  | 139 => 133
  | 138 => 132
  | 53 => 135
  | n => n
def ren_g : Nat → Nat
  | 3 => 0
  | 4 => 1
  | n => n
def lays_ren : Ren := ⟨ren_f, ren_t, ren_g⟩
set_option maxRecDepth 100000 in
theorem laysV : Lays.n196 Tryd.prog lays_ren := by
  constructor
  all_goals first
    | kernel_rfl
    | (intro w; kernel_rfl)
theorem valid_calls (s : ByteArray) (w : World) (hs : s.size ≤ 9223372036854775807) (hT : Utf8Tabs 0 1 w) :
    Calls Tryd.prog 63 #[.string s] w fun e w' => e = .returned (.bool (validD s.data.toList)) ∧ Go.RowKit.Below w.heap.size w w' := Any.utf8_ValidString laysV s w hs hT
theorem globals2 : Tryd.prog.globals.size = 2 := by kernel_rfl
theorem mixed : Tryd.prog.follows .mixedOrders = true := by kernel_rfl
theorem laid : laidOutB Tryd.prog = true := by kernel_rfl
def spU := withUtf8 63 noSp
def tabU := without [63, 70] tab
theorem tabU_ok : TabOK Tryd.prog tabU := without_ok tab_ok
theorem spU_ok (t : Nat → Option XFun) : SpOK Tryd.prog t spU := withUtf8_ok globals2 Tryd.func63 (by kernel_rfl) (by kernel_rfl) valid_calls noSp_ok
theorem awake_told : toldAs (.b true) (exec tabU spU 400 (.fn (.func 11) [] []) [] tabs0) = true := by kernel_rfl
def spV := withTabs 11 [] (.b true) spU
def tabV := without [11, 63, 70] tab
theorem tabV_ok : TabOK Tryd.prog tabV := without_ok tab_ok
theorem spV_ok : SpOK Tryd.prog tabV spV := withTabs_ok (k := 400) (f := 11) (args := []) (v := .b true) mixed globals2 tabU_ok (spU_ok _) awake_told rfl rfl (spU_ok _)
/-- The tables lie in the heap. -/
structure Tb (H : AH) : Prop where
  t0 : H.get 0 = some (.cells firstC false)
  t1 : H.get 1 = some (.cells acceptC false)
theorem Tb.kp {H H' : AH} (h : Tb H) (ho : H.Ok) (k : Kp H H') : Tb H' := ⟨by rw [k.keep _ (ho _ _ h.t0)]; exact h.t0, by rw [k.keep _ (ho _ _ h.t1)]; exact h.t1⟩
theorem valid_ev {H : AH} (h : Tb H) (s : ByteArray) (hs : s.size ≤ 9223372036854775807) : Ev tabV spV (.fn (.func 63) [] []) [.s s] H (fun r H' => r = .b (validD s.data.toList) ∧ H' = H) :=
  Ev_sp rfl (show spV 63 [.s s] H = _ from (withTabs_no (by decide)).trans (withUtf8_at hs h.t0 h.t1)) ⟨rfl, rfl⟩
theorem awake_ev {H : AH} (h : Tb H) : Ev tabV spV (.fn (.func 11) [] []) [] H (fun r H' => r = .b true ∧ H' = H) :=
  Ev_sp rfl (show spV 11 [] H = _ from withTabs_at h.t0 h.t1) ⟨rfl, rfl⟩
end Go.Proofs.YtfhbdddjclodhaaDoor.E
