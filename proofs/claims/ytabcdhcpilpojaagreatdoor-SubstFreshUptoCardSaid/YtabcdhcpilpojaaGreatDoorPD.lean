/- Plain runs by rewriting. -/
import Derived.Test.YtabcdhcpilpojaaGreatDoorPE
import Derived.Test.YtabcdhcpilpojaaGreatDoorVB
import Derived.Test.YtabcdhcpilpojaaGreatDoorPC
import Derived.WalkKit
import Derived.ProofKit
import Derived.OpenShut
section
set_option linter.unusedVariables false
set_option linter.unusedSimpArgs false
namespace Go.Pure
open Go
open Go.Virt (Ex Ctx Ty TK maxLenV looksV)

/-! ### what a run has to end in -/
/-- A mark that keeps the rewriter out of what comes later. -/
structure Tag {α : Type} (a : α) : Type where
def wp {α : Type} (x : Option α) (Q : α → Prop) (_t : Tag Q := ⟨⟩) : Prop := match x with | some a => Q a | none => False
@[simp] theorem wp_some {α : Type} {a : α} {Q : α → Prop} {t : Tag Q} : wp (some a) Q t = Q a := rfl
@[simp] theorem wp_none {α : Type} {Q : α → Prop} {t : Tag Q} : wp (none : Option α) Q t = False := rfl
theorem wp_mono {α : Type} {x : Option α} {Q R : α → Prop} (h : wp x Q) (hq : ∀ a, Q a → R a) : wp x R := by
  cases x with
  | none => exact h
  | some a => exact hq a h
theorem wp_iff {α : Type} {x : Option α} {Q : α → Prop} : wp x Q ↔ ∃ a, x = some a ∧ Q a := by
  cases x with
  | none => simp
  | some a => simp
def bO {α β : Type} (x : Option α) (f : α → Option β) (_t : Tag f := ⟨⟩) : Option β := match x with | some a => f a | none => none
@[simp] theorem bO_some {α β : Type} {a : α} {f : α → Option β} {t : Tag f} : bO (some a) f t = f a := rfl
@[simp] theorem bO_none {α β : Type} {f : α → Option β} {t : Tag f} : bO none f t = none := rfl
@[simp] theorem wp_bO {α β : Type} {x : Option α} {f : α → Option β} {t : Tag f} {Q : β → Prop} {u : Tag Q} : wp (bO x f t) Q u = wp x fun a => wp (f a) Q := by cases x <;> rfl
@[simp] theorem wp_map {α β : Type} {x : Option α} {f : α → β} {Q : β → Prop} {u : Tag Q} : wp (x.map f) Q u = wp x fun a => Q (f a) := by cases x <;> rfl
@[simp] theorem wp_bind {α β : Type} {x : Option α} {f : α → Option β} {Q : β → Prop} {u : Tag Q} : wp (x.bind f) Q u = wp x fun a => wp (f a) Q := by cases x <;> rfl

/-- A branch into which the rewriter does not look before it is decided. -/
def ifB (b : Bool) (A B : Prop) (_t : Tag A := ⟨⟩) (_u : Tag B := ⟨⟩) : Prop := if b = true then A else B
@[simp] theorem ifB_true {A B : Prop} {t : Tag A} {u : Tag B} : ifB true A B t u = A := rfl
@[simp] theorem ifB_false {A B : Prop} {t : Tag A} {u : Tag B} : ifB false A B t u = B := rfl
theorem ifB_intro {b : Bool} {A B : Prop} {t : Tag A} {u : Tag B} (h1 : b = true → A) (h2 : b = false → B) : ifB b A B t u := by
  cases b with
  | true => exact h1 rfl
  | false => exact h2 rfl

@[simp] theorem ifB_not {b : Bool} {A B : Prop} {t : Tag A} {u : Tag B} : ifB (!b) A B t u = ifB b B A u t := by cases b <;> rfl

/-! ### slots and heaps -/
@[simp] theorem put_get (sl : PSL) (d t : Nat) (v : PV) : (sl.put d v) t = if t = d then some v else sl t := rfl
@[simp] theorem zipP_get (args : List PV) (t : Nat) : zipP 0 args t = args[t]? := by simp [zipP]
@[simp] theorem keepP_get (sl sl' : PSL) (t : Nat) : keepP sl sl' t = bO (sl t) fun _ => sl' t := by unfold keepP bO; cases sl t <;> rfl
@[simp] theorem ph_put_get (h : PH) (i ver : Nat) (o : PO) (j : Nat) : (h.put i ver o).get j = if j = i then some (ver, o) else h.get j := rfl
@[simp] theorem ph_put_next (h : PH) (i ver : Nat) (o : PO) : (h.put i ver o).next = h.next := rfl
@[simp] theorem putP_some {sl : PSL} {n : Nat} {v : PV} : putP sl (some n) v = sl.put n v := rfl
@[simp] theorem putP_none {sl : PSL} {v : PV} : putP sl none v = sl := rfl
@[simp] theorem opdP_tmp {sl : PSL} {t : Nat} : opdP sl (.tmp t) = sl t := rfl
@[simp] theorem opdP_func {sl : PSL} {f : Nat} : opdP sl (.func f) = some (.fn f [] []) := rfl
@[simp] theorem opdP_int {sl : PSL} {k : IntKind} {n : Int} : opdP sl (.const (.int k n)) = some (.int k n) := rfl
@[simp] theorem opdP_bool {sl : PSL} {b : Bool} : opdP sl (.const (.bool b)) = some (.bool b) := rfl
@[simp] theorem opdP_str {sl : PSL} {b : ByteArray} : opdP sl (.const (.string b)) = some (.str (b.data.toList.map UInt8.toNat)) := rfl
@[simp] theorem opdP_nils {sl : PSL} : opdP sl (.const (.slice none 0 0)) = some .nils := rfl
@[simp] theorem opdP_nilp {sl : PSL} : opdP sl (.const (.pointer none)) = some .nilp := rfl
@[simp] theorem opdP_nilm {sl : PSL} : opdP sl (.const (.map none)) = some .nilm := rfl
@[simp] theorem opdP_nilf {sl : PSL} : opdP sl (.const .nilFunc) = some .nilf := rfl
@[simp] theorem opdP_nili {sl : PSL} : opdP sl (.const .nilIface) = some .nili := rfl
@[simp] theorem opdP_agg {sl : PSL} {cs : Array Value} : opdP sl (.const (.agg cs)) = (pconst.go 2 cs.toList).map .agg := rfl
@[simp] theorem go_nil {n : Nat} : pconst.go n [] = some [] := by simp only [pconst.go]
@[simp] theorem go_cons {n : Nat} {v : Value} {r : List Value} : pconst.go n (v :: r) = bO (pconst n v) fun p => bO (pconst.go n r) fun ps => some (p :: ps) := by
  simp only [pconst.go]
  cases pconst n v <;> cases pconst.go n r <;> rfl
@[simp] theorem pc_int {n : Nat} {k : IntKind} {i : Int} : pconst n (.int k i) = some (.int k i) := by cases n <;> rfl
@[simp] theorem pc_bool {n : Nat} {b : Bool} : pconst n (.bool b) = some (.bool b) := by cases n <;> rfl
@[simp] theorem pc_str {n : Nat} {b : ByteArray} : pconst n (.string b) = some (.str (b.data.toList.map UInt8.toNat)) := by cases n <;> rfl
@[simp] theorem pc_nils {n : Nat} : pconst n (.slice none 0 0) = some .nils := by cases n <;> rfl
@[simp] theorem pc_nilp {n : Nat} : pconst n (.pointer none) = some .nilp := by cases n <;> rfl
@[simp] theorem pc_nilm {n : Nat} : pconst n (.map none) = some .nilm := by cases n <;> rfl
@[simp] theorem pc_nilf {n : Nat} : pconst n .nilFunc = some .nilf := by cases n <;> rfl
@[simp] theorem pc_nili {n : Nat} : pconst n .nilIface = some .nili := by cases n <;> rfl
@[simp] theorem pconsts_eq {l : List Value} : pconsts l = pconst.go 0 l := rfl
@[simp] theorem opdsP_nil {sl : PSL} : opdsP sl [] = some [] := rfl
@[simp] theorem opdsP_cons {sl : PSL} {x : Operand} {r : List Operand} : opdsP sl (x :: r) = bO (opdP sl x) fun v => bO (opdsP sl r) fun vs => some (v :: vs) := by
  simp only [opdsP]
  cases opdP sl x <;> cases opdsP sl r <;> rfl
@[simp] theorem partsP_nil {sl : PSL} : partsP sl [] = some [] := rfl
@[simp] theorem partsP_cons {sl : PSL} {i : Nat} {x : Operand} {r : List (Nat × Operand)} : partsP sl ((i, x) :: r) = bO (opdP sl x) fun v => bO (partsP sl r) fun vs => some ((i, v) :: vs) := by
  simp only [partsP]
  cases opdP sl x <;> cases partsP sl r <;> rfl

/-! ### code -/
section
variable {C : Ctx} {K : Loc} {rng : Bool} {sl : PSL} {h : PH} {Q : Ex × PSL × PH → Prop}
@[simp] theorem wp_seq {a b : Code} : wp (exI C K rng (.seq a b) sl h) Q = wp (exI C K rng a sl h) fun r => match r with
    | (.normal, sl, h) => wp (exI C K rng b sl h) Q
    | r => Q r := by
  rw [exI_seq]
  cases exI C K rng a sl h with
  | none => rfl
  | some r =>
    obtain ⟨x, sl', h'⟩ := r
    cases x <;> rfl
@[simp] theorem wp_cond {c : Operand} {a b : Code} : wp (exI C K rng (.cond c a b) sl h) Q = wp (opdP sl c) fun v => match v with
    | .bool x => ifB x (wp (exI C K rng a sl h) Q) (wp (exI C K rng b sl h) Q)
    | _ => False := by
  rw [exI_cond]
  cases opdP sl c with
  | none => rfl
  | some v =>
    cases v with
    | bool x => cases x <;> rfl
    | _ => rfl
@[simp] theorem wp_block {id : Nat} {b : Code} : wp (exI C K rng (.block id b) sl h) Q = wp (exI C K rng b sl h) fun r => match r with
    | (.exit id', sl, h) => if id' = id then Q (.normal, sl, h) else Q (.exit id', sl, h)
    | r => Q r := by
  rw [exI_block]
  cases exI C K rng b sl h with
  | none => rfl
  | some r =>
    obtain ⟨x, sl', h'⟩ := r
    cases x with
    | exit id' => simp only [blockI, wp_some]; split <;> rfl
    | _ => rfl
theorem wp_loop {b : Code} : wp (exI C K rng (.loop b) sl h) Q = wp (exI C K rng b sl h) fun r => match r with
    | (.normal, sl', h') => wp (exI C K rng (.loop b) (keepP sl sl') h') Q
    | r => Q r := by
  rw [exI_loop]
  cases exI C K rng b sl h with
  | none => rfl
  | some r =>
    obtain ⟨x, sl', h'⟩ := r
    cases x <;> rfl
@[simp] theorem wp_skip {t0 : Tag Q} : wp (exI C K rng .skip sl h) Q t0 = Q (.normal, sl, h) := by rw [exI_skip]; rfl
@[simp] theorem wp_exit {id : Nat} : wp (exI C K rng (.exit id) sl h) Q = Q (.exit id, sl, h) := by rw [exI_exit]; rfl
@[simp] theorem wp_ret {t0 : Tag Q} : wp (exI C K rng .ret sl h) Q t0 = Q (.ret, sl, h) := by rw [exI_ret]; rfl
@[simp] theorem wp_region {id : Nat} {ops : Array Oper} : wp (exI C K rng (.region id ops false) sl h) Q = wp (opsP C (callI C) (yieldI C) K ops.toList ops.toList sl h) fun p => Q (.normal, p.1, p.2) := by
  rw [exI_region, wp_map]
@[simp] theorem wp_draw {id : Nat} {ops : Array Oper} : wp (exI C K rng (.region id ops true) sl h) Q = wp (passP C (callI C) (yieldI C) K ops.toList (Region.before ops) ops.toList 0 { sl, h, st := [], made := [] }) fun s => Q (.normal, s.sl, s.h) := by
  rw [exI_draw, wp_map]
  unfold drawP
  rw [wp_map]
end

section
variable {C : Ctx} {cf : CF} {yf : YF} {K : Loc} {all : List Oper} {sl : PSL} {h : PH} {d : Option Nat} {t : TypeId} {pos : String} {af : Array Edge} {gd : Option (Nat × Bool)}
@[simp] theorem wp_ops_nil {Q : PSL × PH → Prop} : wp (opsP C cf yf K all [] sl h) Q = Q (sl, h) := rfl
@[simp] theorem wp_ops_cons {o : Oper} {r : List Oper} {Q : PSL × PH → Prop} : wp (opsP C cf yf K all (o :: r) sl h) Q =
    wp (wantedP all sl o) fun w => ifB w (wp (opP C cf yf all K sl h o) fun p => wp (opsP C cf yf K all r (putP sl o.dst p.1) p.2) Q) (wp (opsP C cf yf K all r (putP sl o.dst (.tuple [])) h) Q) := by
  simp only [opsP]
  cases wantedP all sl o with
  | none => rfl
  | some w =>
    cases w with
    | true => cases opP C cf yf all K sl h o <;> rfl
    | false => rfl
@[simp] theorem wanted_none {op : Op} : wantedP all sl ⟨d, op, t, pos, af, none⟩ = some true := rfl
@[simp] theorem wanted_some {op : Op} {j : Nat} {want : Bool} : wantedP all sl ⟨d, op, t, pos, af, some (j, want)⟩ = (match (all[j]?).bind (·.dst) with
    | some d => bO (sl d) fun v => match v with | .bool b => some (b == want) | _ => some false
    | none => some false) := by
  simp only [wantedP]
  cases hb : (all[j]?).bind (·.dst) with
  | none => rfl
  | some d =>
    simp only
    cases hs : sl d with
    | none => rfl
    | some v => cases v <;> rfl

theorem op_free {o : Oper} (h1 : makeP C all sl o = none) (h2 : stateP C cf yf all K sl h o = none) : opP C cf yf all K sl h o = bO (freeP C sl o) fun v => some (v, h) := by
  unfold opP
  cases freeP C sl o with
  | some v => rfl
  | none => simp only [h1, h2]; rfl
theorem op_state {o : Oper} (h1 : makeP C all sl o = none) (h2 : freeP C sl o = none) : opP C cf yf all K sl h o = stateP C cf yf all K sl h o := by
  unfold opP
  simp only [h1, h2]
end

/-! ### operations -/
attribute [simp] freeP makeP stateP Mk.obj Mk.val toP Go.Virt.TK.agg mapFindP mapPutP mapDelP sameKeyP keyP natP binP intP strP unP cellsOf cellP lenP
@[simp] theorem readP_eq {cs : List PV} {off n : Nat} : readP cs off n = if off + n ≤ cs.length then some ((cs.drop off).take n) else none := rfl
@[simp] theorem zeroE_eq {ty : Ty} : zeroE ty = (pconsts ty.zero).bind (toP ty.k.agg) := rfl
section
variable {C : Ctx} {cf : CF} {yf : YF} {K : Loc} {all : List Oper} {sl : PSL} {h : PH} {o : Oper}
@[simp] theorem wp_op {Q : PV × PH → Prop} : wp (opP C cf yf all K sl h o) Q = (match freeP C sl o with
    | some v => Q (v, h)
    | none => match makeP C all sl o with
      | some m => match m.obj, o.dst with
        | none, _ => Q (m.val 0 0, h)
        | some ob, some d => Q (m.val (K.base + d) (h.stamp (K.base + d)), h.put (K.base + d) (h.stamp (K.base + d)) ob)
        | some _, none => False
      | none => wp (stateP C cf yf all K sl h o) Q) := by
  unfold opP
  cases freeP C sl o with
  | some v => rfl
  | none =>
    cases makeP C all sl o with
    | none => rfl
    | some m =>
      simp only
      cases m.obj with
      | none => rfl
      | some ob => cases o.dst <;> rfl
end

section
variable {C : Ctx} {sl : PSL} {h : PH}
@[simp] theorem resP_nil : resP C sl h [] = some [] := rfl
@[simp] theorem resP_tmp {t : Nat} {r : List ResultVar} : resP C sl h (.tmp t :: r) = bO (sl t) fun v => bO (resP C sl h r) fun vs => some (v :: vs) := by
  simp only [resP]
  cases sl t <;> cases resP C sl h r <;> rfl
attribute [simp] inlT inlV inlC ownT ownV ownC oneP mapO refs below extP plain fillE PH.elems PH.row PH.freeze can appendP litUse stateP.bytesP
@[simp] theorem mapO_cons {α β : Type} {f : α → Option β} {x : α} {r : List α} : mapO f (x :: r) = bO (f x) fun y => bO (mapO f r) fun ys => some (y :: ys) := by
  simp only [mapO]
  cases f x <;> cases mapO f r <;> rfl
end
section
variable {sl : PSL}
attribute [simp] optP boundsP
end
/-! ### calls -/
theorem wp_call {C : Ctx} {K : Loc} {f : Nat} {args : List PV} {h : PH} {fn : Func} {c : Code} {v : PV} (hext : extP C f args = none) (hF : C.F f = some fn) (hb : fn.body = some c) (hraw : C.raw f = false) (ho : args.flatMap ownV = []) (hr : args.flatMap (refs 3) = [])
    (hx : wp (exI C { base := h.next, lo := h.next, ok := [] } true c (zipP 0 args) { h with next := h.next + fn.ntmps }) fun r => (r.1 = .normal ∨ r.1 = .ret) ∧ wp (resP C r.2.1 r.2.2 fn.results.toList) fun vs =>
      inlT r.2.2 (oneP vs) = some v ∧ (ownT (oneP vs)).all (fun i => Nat.ble h.next i) = true) (hv : below h.next 4 v = true) : callI C K f args h = some (v, h) := by
  have hm : mapO (inlV h) args = some args := by
    have hone : ∀ a, ownV a = [] → inlV h a = some a := by
      intro a ha
      have hc : ∀ cs : List PV, cs.flatMap ownC = [] → mapO (inlC h) cs = some cs := by
        intro cs
        induction cs with
        | nil => intro _; rfl
        | cons c cs ih =>
          intro hh
          rw [List.flatMap_cons, List.append_eq_nil_iff] at hh
          simp only [mapO, ih hh.2]
          cases c <;> simp_all [ownC, inlC]
      cases a with
      | agg cs => simp only [inlV]; rw [hc cs ha]; rfl
      | own => simp [ownV, ownC] at ha
      | _ => rfl
    clear hext hx hr
    induction args with
    | nil => rfl
    | cons a l ih =>
      rw [List.flatMap_cons, List.append_eq_nil_iff] at ho
      simp only [mapO, hone a ho.1, ih ho.2]
  obtain ⟨⟨x, sl', h2⟩, h1, h3, h4⟩ := wp_iff.1 hx
  obtain ⟨vs, h5, h6, h7⟩ := wp_iff.1 h4
  have hs : settleP h h2 [] [] (oneP vs) = some (v, h) := by
    unfold settleP
    simp only at h6
    rw [h6]
    simp only [List.any_nil, Bool.or_false, h7, hv, List.all_nil, Bool.and_true, if_true, foldOld]
  rw [callI_eq]
  unfold callF
  rw [hext]
  simp only [hF, hb, hraw, Bool.false_eq_true, if_false, hm, ho, hr, reach, List.all_nil, Bool.and_true, if_true, PH.freeze]
  have h1' : exI C { base := h.next, lo := h.next, ok := [] } true c (zipP 0 args) { next := h.next + fn.ntmps, get := h.get } = some (x, sl', h2) := h1
  rw [h1']
  simp only at h5
  rcases h3 with h3 | h3 <;> simp only at h3 <;> subst h3 <;> simp only [h5] <;> exact hs
end Go.Pure
end

section
set_option linter.unusedSimpArgs false
set_option linter.unusedVariables false
namespace Go.Pure
open Go
open Go.Virt (Ex Ctx Ty TK)


theorem wp_loop_inv {C : Ctx} {K : Loc} {rng : Bool} {b : Code} {Q : Ex × PSL × PH → Prop} (I : Nat → PSL → PH → Prop)
    (step : ∀ n sl h, I n sl h → wp (exI C K rng b sl h) fun r => match r with | (.normal, sl', h') => ∃ m, m < n ∧ I m (keepP sl sl') h' | r => Q r) :
    ∀ n sl h, I n sl h → wp (exI C K rng (.loop b) sl h) Q := by
  intro n
  induction n using Nat.strongRecOn with
  | _ n ih =>
    intro sl h hi
    rw [wp_loop]
    refine wp_mono (step n sl h hi) ?_
    rintro ⟨x, sl', h'⟩ hq
    cases x with
    | normal => obtain ⟨m, hm, hI⟩ := hq; exact ih m hm _ _ hI
    | exit id => exact hq
    | ret => exact hq

/-- A fact that the rewriter must not use. -/
structure Hide (p : Prop) : Prop where
  get : p

theorem idx_at {α : Type} {xs done rest : List α} {x : α} (hx : xs = done ++ x :: rest) : ∃ h : done.length < xs.length, xs[done.length]'h = x := by
  subst hx
  exact ⟨by simp, by simp⟩

theorem wrap_i64 {n : Int} (h1 : -9223372036854775808 ≤ n) (h2 : n < 9223372036854775808) : IntKind.i64.wrap n = n := by
  simp only [IntKind.wrap, IntKind.bits, IntKind.signed, Bool.true_and, decide_eq_true_eq, ge_iff_le]
  split <;> omega

theorem wrap_u8 {n : Int} (h1 : 0 ≤ n) (h2 : n < 256) : IntKind.u8.wrap n = n := by
  simp only [IntKind.wrap, IntKind.bits, IntKind.signed, Bool.false_and, Bool.false_eq_true, if_false]
  omega
theorem wrap_u64 {n : Int} : 0 ≤ IntKind.u64.wrap n ∧ IntKind.u64.wrap n < 18446744073709551616 := by
  simp only [IntKind.wrap, IntKind.bits, IntKind.signed, Bool.false_and, Bool.false_eq_true, if_false]
  omega
theorem wrap_u64' {n : Int} (h1 : 0 ≤ n) (h2 : n < 18446744073709551616) : IntKind.u64.wrap n = n := by
  simp only [IntKind.wrap, IntKind.bits, IntKind.signed, Bool.false_and, Bool.false_eq_true, if_false]
  omega

/-- A flat result: nothing of the heap, whatever the heap. -/
def flat1 : PV → Bool
  | .bool _ | .int _ _ | .str _ | .nilp | .nils | .nilm | .nilf | .nili => true
  | _ => false

/-- What a function answers, wherever it is called. -/
abbrev Ans (C : Ctx) (f : Nat) (args : List PV) (v : PV) : Prop := ∀ K H, callI C K f args H = some (v, H)

theorem flat_below {v : PV} (h : flat1 v = true) (m n : Nat) : below m n v = true := by
  cases v <;> simp_all [flat1] <;> cases n <;> rfl
theorem flat_noTag {v : PV} (h : flat1 v = true) (m : Nat) (n : Nat) : noTag m n v = true := by
  cases v <;> simp_all [flat1] <;> cases n <;> rfl

/-- Own slices as arguments, a flat answer. -/
theorem call_own {C : Ctx} {K : Loc} {f : Nat} {args args' : List PV} {h : PH} {v : PV} (hA : Ans C f args' v) (hv : flat1 v = true) (hraw : C.raw f = false) (hm : mapO (inlV h) args = some args') (hne : args.isEmpty = false)
    (ho : args'.flatMap ownV = []) (hr : args'.flatMap (refs 3) = [])
    (hids : (args.flatMap ownV).all (fun i => can K i && match h.get i with | some (_, .row _ _ _) => true | _ => false) = true) : callI C K f args h = some (v, h) := by
  have hx : ∀ l : List PV, l.isEmpty = false → extP C f l = none := by intro l hl; cases l with | nil => cases hl | cons a l => rfl
  have hne' : args'.isEmpty = false := by
    cases args with
    | nil => cases hne
    | cons a l =>
      simp only [mapO] at hm
      split at hm
      · injection hm with hm; subst hm; rfl
      · cases hm
  have hm' : ∀ H, mapO (inlV H) args' = some args' := by
    intro H
    have hone : ∀ a, ownV a = [] → inlV H a = some a := by
      intro a ha
      have hc : ∀ cs : List PV, cs.flatMap ownC = [] → mapO (inlC H) cs = some cs := by
        intro cs
        induction cs with
        | nil => intro _; rfl
        | cons c cs ih =>
          intro hh
          rw [List.flatMap_cons, List.append_eq_nil_iff] at hh
          simp only [mapO, ih hh.2]
          cases c <;> simp_all [ownC, inlC]
      cases a with
      | agg cs => simp only [inlV]; rw [hc cs ha]; rfl
      | own => simp [ownV, ownC] at ha
      | _ => rfl
    clear hm hr hne' hA
    induction args' with
    | nil => rfl
    | cons a l ih =>
      rw [List.flatMap_cons, List.append_eq_nil_iff] at ho
      simp only [mapO, hone a ho.1, ih ho.2]
  have h0 := hA K (h.freeze (args.flatMap ownV))
  have hfn : ∀ (l : List Nat) (g : PH), (g.freeze l).next = g.next := by
    intro l
    induction l with
    | nil => intro g; rfl
    | cons i l ih => intro g; simp only [PH.freeze]; split <;> rw [ih]; rfl
  rw [callI_eq] at h0 ⊢
  unfold callF at h0 ⊢
  rw [hx _ hne'] at h0
  rw [hx _ hne]
  cases hF : C.F f with
  | none => simp only [hF] at h0; cases h0
  | some fn =>
    simp only [hF] at h0 ⊢
    cases hb : fn.body with
    | none => simp only [hb] at h0; cases h0
    | some c =>
      simp only [hb, hraw, Bool.false_eq_true, if_false, hm', ho, hr, reach, List.all_nil, Bool.and_true, if_true] at h0
      have hcan : (args.flatMap ownV).all (can K) = true := by
        rw [List.all_eq_true] at hids ⊢
        intro i hi
        have := hids i hi
        simp only [Bool.and_eq_true] at this
        exact this.1
      simp only [hraw, Bool.false_eq_true, if_false, hm, hr, reach, List.all_nil, Bool.true_and, hcan, if_true]
      have e1 : (PH.freeze (h.freeze (args.flatMap ownV)) []) = h.freeze (args.flatMap ownV) := rfl
      rw [e1, hfn] at h0
      cases hx : exI C { base := h.next, lo := h.next, ok := [] } true c (zipP 0 args') { h.freeze (args.flatMap ownV) with next := h.next + fn.ntmps } with
      | none => rw [hx] at h0; cases h0
      | some r =>
        obtain ⟨x, sl', h2⟩ := r
        rw [hx] at h0
        have key : ∀ vs, settleP (h.freeze (args.flatMap ownV)) h2 [] [] (oneP vs) = some (v, h.freeze (args.flatMap ownV)) → settleP h h2 [] (args.flatMap ownV) (oneP vs) = some (v, h) := by
          intro vs hs
          unfold settleP at hs ⊢
          cases hi : inlT h2 (oneP vs) with
          | none => rw [hi] at hs; cases hs
          | some v' =>
            rw [hi] at hs
            simp only [List.any_nil, Bool.or_false, hfn, List.all_nil, Bool.and_true, foldOld] at hs ⊢
            by_cases ha : ((ownT (oneP vs)).all fun i => Nat.ble h.next i) = true
            · rw [if_pos ha] at hs ⊢
              have hvv : v' = v := by
                by_cases hb : below h.next 4 v' = true
                · rw [if_pos hb] at hs
                  simp only [if_true, Option.some.injEq, Prod.mk.injEq] at hs
                  exact hs.1
                · rw [if_neg hb] at hs
                  split at hs
                  · simp only [Option.some.injEq, Prod.mk.injEq] at hs; exact hs.1
                  · cases hs
              subst hvv
              rw [if_pos (flat_below hv _ _), if_pos]
              rw [List.all_eq_true] at hids ⊢
              intro i hi
              have := hids i hi
              simp only [Bool.and_eq_true] at this
              simp only [Bool.not_false, Bool.true_and]
              have h2 := this.2
              split at h2
              · rename_i ver g own xs hg
                rw [hg]
                cases own <;> simp [flat_noTag hv]
              · cases h2
            · rw [if_neg ha] at hs; cases hs
        cases x with
        | exit => simp only at h0; cases h0
        | normal =>
          simp only at h0 ⊢
          cases hres : resP C sl' h2 fn.results.toList with
          | none => rw [hres] at h0; cases h0
          | some vs => rw [hres] at h0; exact key vs h0
        | ret =>
          simp only at h0 ⊢
          cases hres : resP C sl' h2 fn.results.toList with
          | none => rw [hres] at h0; cases h0
          | some vs => rw [hres] at h0; exact key vs h0

/-- One own slice as argument. -/
theorem own1 {C : Ctx} {f g : Nat} {ys : List PV} {v : PV} (hA : Ans C f [.lst g ys] v) (hv : flat1 v = true) (hraw : C.raw f = false) :
    ∀ (K : Loc) (h : PH) (i ver n : Nat) (own : Bool), K.lo ≤ i → h.get i = some (ver, .row g own ys) → n = ys.length → callI C K f [.own i ver g 0 n] h = some (v, h) := by
  intro K h i ver n own hK hg hn
  refine call_own hA hv hraw ?_ rfl rfl rfl ?_
  · simp [hg, hn]
  · simp [hg, hK]
theorem own2 {C : Ctx} {f g : Nat} {x : PV} {ys : List PV} {v : PV} (hA : Ans C f [x, .lst g ys] v) (hv : flat1 v = true) (hx : flat1 x = true) (hraw : C.raw f = false) :
    ∀ (K : Loc) (h : PH) (i ver n : Nat) (own : Bool), K.lo ≤ i → h.get i = some (ver, .row g own ys) → n = ys.length → callI C K f [x, .own i ver g 0 n] h = some (v, h) := by
  intro K h i ver n own hK hg hn
  have h1 : inlV h x = some x := by cases x <;> simp_all [flat1]
  have h2 : ownV x = [] := by cases x <;> simp_all [flat1]
  have h3 : refs 3 x = [] := by cases x <;> simp_all [flat1]
  refine call_own hA hv hraw ?_ rfl ?_ ?_ ?_
  · rw [mapO_cons, h1]; simp [hg, hn]
  · rw [List.flatMap_cons, h2]; rfl
  · rw [List.flatMap_cons, h3]; rfl
  · rw [List.flatMap_cons, h2]; simp [hg, hK]
end Go.Pure
end

section
namespace Go.Pure
open Go Go.RowKit
open Go.Virt (Ex Ctx Ty TK VH VO Blk HR VR VRs RowR Sound cellB flat deadBlk)

/-- A slice that comes in: where its cells lie, what they hold. -/
structure ARow where
  b : Nat
  d : Nat
  cells : List Value
  e : Nat
  g : Nat
structure ARow.In (w : World) (r : ARow) : Prop where
  lt : r.b < w.heap.size
  cell : ∀ v ∈ r.cells, cellB v = true
  flat : ∀ v ∈ r.cells, Virt.flat 4 v = true
  real : ∃ c el fr, w.heap[r.b]? = some (.cells c el fr) ∧ ∀ j v, r.cells[j]? = some v → c[r.d + j]? = some v

def vh0 (rows : List ARow) : VH := { next := rows.length, get := fun i => (rows[i]?).map fun r => .row r.cells r.e false, wr := 0 }
def Z0 (rows : List ARow) : Sig := fun i => (rows[i]?).map fun r => { cells := r.cells, e := r.e, own := false, tag := some r.g }
def s0 (rows : List ARow) : Nat → Blk := fun i => match rows[i]? with
  | some r => { b := r.b, d := r.d, N := 0, e := r.e, own := false, live := true }
  | none => deadBlk
def K0 : Loc := { base := 0, lo := 0, ok := [] }
def H0 : PH := { next := 0, get := fun _ => none }

theorem hr0 {rows : List ARow} {w : World} (h : ∀ r ∈ rows, r.In w) : HR 0 (s0 rows) (vh0 rows) w w.heap.size where
  lt := fun i o ho => by
    simp only [vh0, Option.map_eq_some_iff] at ho
    obtain ⟨r, hr, _⟩ := ho
    exact (List.getElem?_eq_some_iff.1 hr).1
  glob := ⟨Nat.zero_le _, fun g hg => by omega⟩
  base_ := Nat.le_refl _
  row := fun i cs e own ho => by
    simp only [vh0, Option.map_eq_some_iff] at ho
    obtain ⟨r, hr, ho⟩ := ho
    cases ho
    have hin := h r (List.mem_of_getElem? hr)
    have e1 : s0 rows i = { b := r.b, d := r.d, N := 0, e := r.e, own := false, live := true } := by simp only [s0, hr]
    obtain ⟨c, el, fr, h1, h2⟩ := hin.real
    refine ⟨by rw [e1], hin.cell, c, el, fr, by rw [e1]; exact h1, fun j v hj => ⟨v, by rw [e1]; exact h2 j v hj, VR.of_flat 4 v (hin.flat v (List.mem_of_getElem? hj))⟩, fun hh => (by cases hh), fun _ => (by rw [e1]; exact hin.lt)⟩
  map := fun i es ho => by
    simp only [vh0, Option.map_eq_some_iff] at ho
    obtain ⟨r, _, ho⟩ := ho
    cases ho
  loop := fun i sl ps as bd ho => by
    simp only [vh0, Option.map_eq_some_iff] at ho
    obtain ⟨r, _, ho⟩ := ho
    cases ho
  inj := fun i j oi oj hi hj hm _ _ => by
    simp only [vh0, Option.map_eq_some_iff] at hi
    obtain ⟨r, _, hi⟩ := hi
    subst hi
    cases hm

/-- An argument: plain, virtual, real. -/
inductive ArgR (C : Ctx) (rows : List ARow) : PV → Value → Value → Prop
  | flat {p : PV} {v : Value} (h : pconst 0 v = some p) : ArgR C rows p v v
  | row {i : Nat} {r : ARow} {xs : List PV} {ty : Ty} {cap' : Nat} (hr : rows[i]? = some r) (ht : C.T r.g = some ty) (he : r.e = ty.size) (hc : Virt.readN r.cells 0 (xs.length * ty.size) = some r.cells)
      (hx : RDs C (Z0 rows) (xs.flatMap cellsOf) r.cells) (hl : ∀ x ∈ xs, (cellsOf x).length = ty.size) (hcap : xs.length ≤ cap') :
      ArgR C rows (.lst r.g xs) (.slice (some ⟨i, 0, none⟩) xs.length xs.length) (.slice (some ⟨r.b, r.d, none⟩) xs.length cap')
inductive ArgsR (C : Ctx) (rows : List ARow) : List PV → List Value → List Value → Prop
  | nil : ArgsR C rows [] [] []
  | cons {p : PV} {u v : Value} {ps : List PV} {us vs : List Value} (h : ArgR C rows p u v) (t : ArgsR C rows ps us vs) : ArgsR C rows (p :: ps) (u :: us) (v :: vs)

theorem ArgR.r {C : Ctx} {rows : List ARow} {p : PV} {u v : Value} (h : ArgR C rows p u v) (ρ : Nat → Nat) (vf : Nat → Option Nat) : R C ρ vf (Z0 rows) p u := by
  cases h with
  | flat h => exact .d (pconst_simD 0 _ h)
  | @row i r xs ty cap' hr ht he hc hx hl hcap => exact .d (.lst r.g xs i 0 xs.length { cells := r.cells, e := r.e, own := false, tag := some r.g } r.cells ty (by simp only [Z0, hr, Option.map_some]) he (.inr rfl) ht hc hx hl)
theorem ArgsR.rs {C : Ctx} {rows : List ARow} {ps : List PV} {us vs : List Value} (h : ArgsR C rows ps us vs) (ρ : Nat → Nat) (vf : Nat → Option Nat) : Rs C ρ vf (Z0 rows) ps us := by
  induction h with
  | nil => exact .nil
  | cons h _ ih => exact .cons (h.r ρ vf) ih
theorem ArgR.vr {C : Ctx} {rows : List ARow} {p : PV} {u v : Value} (h : ArgR C rows p u v) : VR (s0 rows) rows.length u v := by
  cases h with
  | flat h => exact VR.of_flat 0 _ (pconst_flat 0 _ h)
  | @row i r xs ty cap' hr ht he hc hx hl hcap =>
    have e1 : s0 rows i = { b := r.b, d := r.d, N := 0, e := r.e, own := false, live := true } := by simp only [s0, hr]
    have := VR.slice (σ := s0 rows) (n := rows.length) i 0 xs.length xs.length cap' ⟨(List.getElem?_eq_some_iff.1 hr).1, by rw [e1]⟩ hcap (fun hh => by rw [e1] at hh; cases hh)
    rw [e1] at this
    exact this
theorem ArgsR.vrs {C : Ctx} {rows : List ARow} {ps : List PV} {us vs : List Value} (h : ArgsR C rows ps us vs) : VRs (s0 rows) rows.length us vs := by
  induction h with
  | nil => exact .nil
  | cons h _ ih => exact .cons h.vr ih

theorem hp0 (C : Ctx) (rows : List ARow) : HP C id (Z0 rows) (vh0 rows) H0 where
  lt := fun i x h => by cases h
  inj := fun i j x y h => by cases h
  vlt := fun i o ho => by
    simp only [vh0, Option.map_eq_some_iff] at ho
    obtain ⟨r, hr, _⟩ := ho
    exact (List.getElem?_eq_some_iff.1 hr).1
  sig := fun vid s hs => by
    simp only [Z0, Option.map_eq_some_iff] at hs
    obtain ⟨r, hr, rfl⟩ := hs
    simp only [vh0, hr, Option.map_some]
  obj := fun i ver o h => by cases h
  wr := Nat.zero_le _

/-- A truth value is the answer. -/
theorem calls_plain {C : Ctx} {P : Program} (hS : Sound C P) (hP : COkP C) (hG : C.G = 0) {f : Nat} {ps : List PV} {b : Bool} (hA : Ans C f ps (.bool b)) {rows : List ARow} {us vs : List Value} {w : World} (ha : ArgsR C rows ps us vs) (hr : ∀ r ∈ rows, r.In w) :
    Virt.Enters P f ∧ Calls P f vs.toArray w fun e w' => e = .returned (.bool b) ∧ Below w.heap.size w w' := by
  obtain ⟨n, hn⟩ := callI_iff.1 (hA K0 H0)
  obtain ⟨u, vh', ρ', Z', he, hu, _⟩ := call_sim' hP n K0 0 f ps H0 _ hn id (Z0 rows) (vh0 rows) us (hp0 C rows) ⟨Nat.le_refl _, Nat.le_refl _⟩ (ha.rs id _)
  have hub : u = .bool b := by
    cases hu with
    | d h => cases h; rfl
  subst hub
  obtain ⟨hen, hgo⟩ := Virt.call_sound hS n f us (vh0 rows) _ vh' he
  refine ⟨hen, fun cs => ?_⟩
  have hH : HR C.G (s0 rows) (vh0 rows) w w.heap.size := by rw [hG]; exact hr0 hr
  obtain ⟨σ', w', v', fr, s, hfn, hl, hh⟩ := hgo (s0 rows) w w.heap.size vs.toArray hH (show VRs (s0 rows) rows.length us vs.toArray.toList by simpa using ha.vrs) cs
  have hvv : v' = .bool b := hh.vr.eq_of_flat 4 rfl
  subst hvv
  exact ⟨.returned (.bool b), w', fr, ⟨rfl, hh.tr.os, hh.tr.tape, hh.tr.output, hh.tr.size, fun b hb => hh.tr.block b hb fun i o hi hm => by
    simp only [vh0, Option.map_eq_some_iff] at hi
    obtain ⟨r, _, hi⟩ := hi
    subst hi
    cases hm⟩, s, hfn, hl⟩
end Go.Pure
end

section
namespace Go.Virt
open Go Go.RowKit Go.ChangeShapes Go.WideShapes Go.ChangeAt

section
variable {H : Type} {enc : TypeId × Value → H} {P : Program}
theorem post_of_below {f : Func} {s : ChangeSpec} {apart fresh handsOn again : Bool} {W W' : World} {args : Array Value} {v : Value} {ds gs : List (DataW H)} {before pa pv : List MemPlace}
    (hW : DataW.Whole enc P f.params.toList s.vars apart W args.toList ds gs before)
    (hres : ∀ (b : Nat) (sp : Nat → Bool) (hd : Bool), DataW.TrodAll enc P W' b sp hd f.resultTypes.toList (v.resultList f.resultTypes.size) (s.fn H (ds ++ gs)).results [])
    (hargs : ∀ sp : Nat → Bool, (∀ p ∈ before, sp p.block = true) → DataW.TrodAll enc P W' 0 sp true f.params.toList args.toList (s.fn H (ds ++ gs)).args pa)
    (hvars : ∀ sp : Nat → Bool, (∀ p ∈ before, sp p.block = true) → DataW.TrodVars enc P W' sp s.vars (s.fn H (ds ++ gs)).vars pv)
    (hps : before = pa ++ pv) (hb : Below W.heap.size W W')
    (hok : ∀ (j : Nat) (t : TypeId) (r : Value), f.resultTypes[j]? = some t → (v.resultList f.resultTypes.size)[j]? = some r → Value.okWide P W' .any 0 t r) :
    s.post enc P f apart fresh handsOn again W args v W' := by
  have hold : ∀ p ∈ before, (fun b => decide (b < W.heap.size)) p.block = true := fun p hp => by simpa using hW.lt p hp
  have hlt := hW.lt
  refine ⟨ds, gs, before, [], pa, pv, hW, hres _ _ _, hargs _ hold, hvars _ hold, World.keptBut_mono (fun p hp => ⟨hp, ?_⟩) (hb.frame (· ∈ before)), fun _ => ?_⟩
  · rw [hps, List.mem_append] at hp
    exact Or.inr hp
  · obtain ⟨_, _, _, _, _, hz, hn⟩ := hW
    refine ⟨hok, _, _, ([] ++ pa) ++ pv, ⟨[] ++ pa, pv, trodAll_append (hargs _ (fun _ _ => rfl)) (hres _ _ _), hvars _ (fun _ _ => rfl), rfl, ?_, ?_⟩, ?_⟩
    · intro b off hp
      have hm : MemPlace.cell b off ∈ before := by rw [hps]; simpa using hp
      have := hb.frozen (p := ⟨b, off, none⟩) (hlt _ hm)
      rw [this]
      exact hz b off hm
    · intro ha
      have := hn ha
      rw [hps] at this
      simpa using this
    · intro p hp _
      rw [hps]
      simpa using hp
end
end Go.Virt
end
