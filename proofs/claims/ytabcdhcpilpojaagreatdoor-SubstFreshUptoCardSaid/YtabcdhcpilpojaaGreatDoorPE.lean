/- More fuel does no harm to a plain run. -/
import Derived.Test.YtabcdhcpilpojaaGreatDoorPA
section
set_option linter.unusedVariables false
set_option linter.unusedSimpArgs false
namespace Go.Pure
open Go Go.Virt

abbrev CF := Loc → Nat → List PV → PH → Option (PV × PH)
abbrev YF := Loc → Nat → Nat → List PV → PH → Option (PV × PH)
abbrev EX := Loc → Code → PSL → PH → Option (Ex × PSL × PH)
def Le4 {α β γ δ ε : Type} (f g : α → β → γ → δ → Option ε) : Prop := ∀ a b c d r, f a b c d = some r → g a b c d = some r

def Le5 {α β γ δ ε ζ : Type} (f g : α → β → γ → δ → ε → Option ζ) : Prop := ∀ a b c d e r, f a b c d e = some r → g a b c d e = some r

section
variable {C : Ctx} {cf cf' : CF} {yf yf' : YF}

theorem stateP_mono (hc : Le4 cf cf') (hy : Le5 yf yf') {all : List Oper} {K : Loc} {sl : PSL} {h : PH} {o : Oper} {r : PV × PH} (he : stateP C cf yf all K sl h o = some r) : stateP C cf' yf' all K sl h o = some r := by
  cases hop : o.op with
  | slice t x lo hi mx => cases mx <;> simp only [stateP, hop] at he ⊢ <;> exact he
  | call c =>
    simp only [stateP, hop] at he ⊢
    split at he
    · cases he
    · rename_i args hargs
      cases hcal : c.callee with
      | builtin b => simp only [hcal] at he ⊢; exact he
      | invoke a b => simp only [hcal] at he; cases he
      | value f =>
        simp only [hcal] at he ⊢
        split at he
        · exact hc _ _ _ _ _ he
        · exact hy _ _ _ _ _ _ he
        · cases he
  | _ => simp only [stateP, hop] at he ⊢ <;> exact he

theorem opP_mono (hc : Le4 cf cf') (hy : Le5 yf yf') {all : List Oper} {K : Loc} {sl : PSL} {h : PH} {o : Oper} {r : PV × PH} (he : opP C cf yf all K sl h o = some r) : opP C cf' yf' all K sl h o = some r := by
  unfold opP at he ⊢
  split at he
  · exact he
  · split at he
    · exact he
    · exact stateP_mono hc hy he

theorem opsP_mono (hc : Le4 cf cf') (hy : Le5 yf yf') {all : List Oper} {K : Loc} : ∀ {l : List Oper} {sl : PSL} {h : PH} {r : PSL × PH}, opsP C cf yf K all l sl h = some r → opsP C cf' yf' K all l sl h = some r
  | [], sl, h, r, he => he
  | o :: l, sl, h, r, he => by
    simp only [opsP] at he ⊢
    split at he
    · split at he
      · rename_i v h1 ho
        rw [opP_mono hc hy ho]
        exact opsP_mono hc hy he
      · cases he
    · exact opsP_mono hc hy he
    · cases he

theorem stepP_mono (hc : Le4 cf cf') (hy : Le5 yf yf') {K : Loc} {all : List Oper} {masks : Array Nat} {o : Oper} {i : Nat} {s s' : PD} (he : stepP C cf yf K all masks o i s = some s') : stepP C cf' yf' K all masks o i s = some s' := by
  unfold stepP at he ⊢
  try dsimp only at he ⊢
  split at he
  · cases he
  · exact he
  · split at he
    · exact he
    · split at he
      · exact he
      · split at he
        · rename_i hcnd
          rw [if_pos hcnd]
          split at he
          · rename_i v h' hst
            rw [stateP_mono hc hy hst]
            exact he
          · cases he
        · cases he

theorem passP_mono (hc : Le4 cf cf') (hy : Le5 yf yf') {K : Loc} {all : List Oper} {masks : Array Nat} : ∀ {l : List Oper} {i : Nat} {s s' : PD}, passP C cf yf K all masks l i s = some s' → passP C cf' yf' K all masks l i s = some s'
  | [], i, s, s', he => he
  | o :: l, i, s, s', he => by
    simp only [passP] at he ⊢
    split at he
    · rename_i st1 h1
      rw [stepP_mono hc hy h1]
      exact passP_mono hc hy he
    · cases he

theorem drawP_mono (hc : Le4 cf cf') (hy : Le5 yf yf') {K : Loc} {ops : Array Oper} {sl : PSL} {h : PH} {r : PSL × PH} (he : drawP C cf yf K ops sl h = some r) : drawP C cf' yf' K ops sl h = some r := by
  unfold drawP at he ⊢
  rw [Option.map_eq_some_iff] at he ⊢
  obtain ⟨s, hp, e⟩ := he
  exact ⟨s, passP_mono hc hy hp, e⟩

theorem callF_mono {ex ex' : EX} (h : Le4 ex ex') : Le4 (callF C ex) (callF C ex') := by
  intro K f args hp r he
  unfold callF at he ⊢
  split at he
  · exact he
  split at he
  · cases he
  · split at he
    · cases he
    · split at he
      · rename_i hraw
        rw [if_pos hraw]
        split at he
        · rename_i sl' h2 hx; rw [h _ _ _ _ _ hx]; exact he
        · rename_i sl' h2 hx; rw [h _ _ _ _ _ hx]; exact he
        · cases he
      · rename_i hraw
        rw [if_neg hraw]
        try dsimp only at he ⊢
        split at he
        · cases he
        · split at he
          · rename_i hok
            rw [if_pos hok]
            split at he
            · rename_i sl' h2 hx; rw [h _ _ _ _ _ hx]; exact he
            · rename_i sl' h2 hx; rw [h _ _ _ _ _ hx]; exact he
            · cases he
          · cases he

theorem yieldF_mono {ex ex' : EX} (h : Le4 ex ex') : Le5 (yieldF ex) (yieldF ex') := by
  intro K l ver args hp r he
  unfold yieldF at he ⊢
  split at he
  · split at he
    · rename_i hl
      rw [if_pos hl]
      split at he
      · rename_i sl1 h1 hx
        rw [h _ _ _ _ _ hx]
        try dsimp only
        split at he
        · rename_i sl2 h2 hx2
          rw [h _ _ _ _ _ hx2]
          exact he
        · cases he
      · cases he
    · cases he
  · cases he

theorem exec_mono : ∀ (n : Nat) (K : Loc) (rng : Bool) (code : Code) (sl : PSL) (h : PH) (r), exec C n K rng code sl h = some r → exec C (n + 1) K rng code sl h = some r := by
  intro n
  induction n with
  | zero => intro K rng code sl h r he; simp only [exec] at he; cases he
  | succ n ih =>
    intro K rng code sl h r he
    have hc : Le4 (callF C (fun K' => exec C n K' true)) (callF C (fun K' => exec C (n + 1) K' true)) := callF_mono fun a b c d r h => ih a true b c d r h
    have hy : Le5 (yieldF (fun K' => exec C n K' false)) (yieldF (fun K' => exec C (n + 1) K' false)) := yieldF_mono fun a b c d r h => ih a false b c d r h
    have hi := ih K rng
    cases code with
    | region id ops draw =>
      rw [exec] at he ⊢
      try dsimp only at he ⊢
      rw [Option.map_eq_some_iff] at he ⊢
      obtain ⟨x, hx, e⟩ := he
      refine ⟨x, ?_, e⟩
      cases draw with
      | true => simp only [if_true] at hx ⊢; exact drawP_mono hc hy hx
      | false => simp only [Bool.false_eq_true, if_false] at hx ⊢; exact opsP_mono hc hy hx
    | seq a b =>
      rw [exec] at he ⊢
      try dsimp only at he ⊢
      split at he
      · rename_i sl1 h1 hx
        rw [hi _ _ _ _ hx]
        exact hi _ _ _ _ he
      · rename_i hne
        have := hi _ _ _ _ he
        rw [this]
        split
        · rename_i sl1 h1 hx
          exact absurd (he.trans (by rw [← hx])) (hne _ _)
        · rfl
    | cond c a b =>
      rw [exec] at he ⊢
      try dsimp only at he ⊢
      split at he
      · exact hi _ _ _ _ he
      · exact hi _ _ _ _ he
      · cases he
    | block id b =>
      rw [exec] at he ⊢
      try dsimp only at he ⊢
      split at he
      · rename_i id' sl1 h1 hx
        rw [hi _ _ _ _ hx]
        exact he
      · rename_i hne
        have := hi _ _ _ _ he
        rw [this]
        split
        · rename_i id' sl1 h1 hx
          exact absurd (he.trans (by rw [← hx])) (hne _ _ _)
        · rfl
    | loop b =>
      rw [exec] at he ⊢
      try dsimp only at he ⊢
      split at he
      · rename_i sl1 h1 hx
        rw [hi _ _ _ _ hx]
        exact hi _ _ _ _ he
      · rename_i hne
        have := hi _ _ _ _ he
        rw [this]
        split
        · rename_i sl1 h1 hx
          exact absurd (he.trans (by rw [← hx])) (hne _ _)
        · rfl
    | rangeFunc f ps as bd =>
      rw [exec] at he ⊢
      try dsimp only at he ⊢
      split at he
      · rename_i hr
        rw [if_pos hr]
        split at he
        · split at he
          · rename_i hraw
            rw [if_pos hraw]
            split at he
            · rename_i u h2 hx
              rw [hc _ _ _ _ _ hx]
              exact he
            · cases he
          · cases he
        · cases he
      · cases he
    | _ => simp only [exec] at he ⊢ <;> exact he

theorem exec_le {n m : Nat} (h : n ≤ m) {K : Loc} {rng : Bool} {code : Code} {sl : PSL} {hp : PH} {r} (he : exec C n K rng code sl hp = some r) : exec C m K rng code sl hp = some r := by
  induction h with
  | refl => exact he
  | step _ ih => exact exec_mono _ _ _ _ _ _ _ ih
theorem call_le {n m : Nat} (h : n ≤ m) {K : Loc} {f : Nat} {args : List PV} {hp : PH} {r} (he : call C n K f args hp = some r) : call C m K f args hp = some r :=
  callF_mono (fun _ _ _ _ _ h' => exec_le h h') _ _ _ _ _ he
end
end Go.Pure
end

section
set_option linter.unusedVariables false
set_option linter.unusedSimpArgs false
namespace Go.Pure
open Go Go.Virt

open Classical in
noncomputable def lim {α : Type} (f : Nat → Option α) : Option α := if h : ∃ n, (f n).isSome = true then f h.choose else none
def Grows {α : Type} (f : Nat → Option α) : Prop := ∀ n m r, n ≤ m → f n = some r → f m = some r
theorem lim_iff {α : Type} {f : Nat → Option α} (hf : Grows f) {r : α} : lim f = some r ↔ ∃ n, f n = some r := by
  unfold lim
  constructor
  · intro h
    split at h
    · exact ⟨_, h⟩
    · cases h
  · rintro ⟨n, hn⟩
    have hex : ∃ n, (f n).isSome = true := ⟨n, by rw [hn]; rfl⟩
    rw [dif_pos hex]
    have h1 := hex.choose_spec
    obtain ⟨r', hr'⟩ := Option.isSome_iff_exists.1 h1
    have h2 := hf _ _ _ (Nat.le_max_left n hex.choose) hn
    have h3 := hf _ _ _ (Nat.le_max_right n hex.choose) hr'
    rw [h2] at h3
    rw [hr', h3]
theorem lim_ext {α : Type} {f : Nat → Option α} {x : Option α} (hf : Grows f) (h1 : ∀ n r, f n = some r → x = some r) (h2 : ∀ r, x = some r → ∃ n, f n = some r) : lim f = x := by
  cases hx : x with
  | some r => exact (lim_iff hf).2 (h2 r hx)
  | none =>
    cases hl : lim f with
    | none => rfl
    | some r =>
      obtain ⟨n, hn⟩ := (lim_iff hf).1 hl
      rw [hx] at h1
      cases h1 n r hn

section
variable (C : Ctx)
noncomputable def exI (K : Loc) (rng : Bool) (code : Code) (sl : PSL) (h : PH) : Option (Ex × PSL × PH) := lim fun n => exec C n K rng code sl h
noncomputable def callI (K : Loc) (f : Nat) (args : List PV) (h : PH) : Option (PV × PH) := lim fun n => call C n K f args h
noncomputable def yieldI (K : Loc) (l ver : Nat) (args : List PV) (h : PH) : Option (PV × PH) := lim fun n => yieldF (fun K' => exec C n K' false) K l ver args h
end

section
variable {C : Ctx} {K : Loc} {rng : Bool} {sl sl' : PSL} {h h' : PH}
theorem grows_ex {code : Code} : Grows (fun n => exec C n K rng code sl h) := fun n m r hl he => exec_le hl he
theorem grows_call {f : Nat} {args : List PV} : Grows (fun n => call C n K f args h) := fun n m r hl he => call_le hl he
theorem grows_yield {l ver : Nat} {args : List PV} : Grows (fun n => yieldF (fun K' => exec C n K' false) K l ver args h) := fun n m r hl he => yieldF_mono (fun _ _ _ _ _ h' => exec_le hl h') _ _ _ _ _ _ he
theorem exI_iff {code : Code} {r} : exI C K rng code sl h = some r ↔ ∃ n, exec C n K rng code sl h = some r := lim_iff grows_ex
theorem callI_iff {f : Nat} {args : List PV} {r} : callI C K f args h = some r ↔ ∃ n, call C n K f args h = some r := lim_iff grows_call
theorem yieldI_iff {l ver : Nat} {args : List PV} {r} : yieldI C K l ver args h = some r ↔ ∃ n, yieldF (fun K' => exec C n K' false) K l ver args h = some r := lim_iff grows_yield

/-- A family that grows to a limit. -/
structure Lims (cfs : Nat → CF) (yfs : Nat → YF) (cf : CF) (yf : YF) : Prop where
  c : ∀ n m, n ≤ m → Le4 (cfs n) (cfs m)
  y : ∀ n m, n ≤ m → Le5 (yfs n) (yfs m)
  cl : ∀ a b d e r, cf a b d e = some r ↔ ∃ n, cfs n a b d e = some r
  yl : ∀ a b d e f r, yf a b d e f = some r ↔ ∃ n, yfs n a b d e f = some r

variable {cfs : Nat → CF} {yfs : Nat → YF} {cf : CF} {yf : YF}
theorem stateP_lim (L : Lims cfs yfs cf yf) {all : List Oper} {o : Oper} {r} : stateP C cf yf all K sl h o = some r ↔ ∃ n, stateP C (cfs n) (yfs n) all K sl h o = some r := by
  constructor
  · intro he
    cases hop : o.op with
    | slice t x lo hi mx => refine ⟨0, ?_⟩; cases mx <;> simp only [stateP, hop] at he ⊢ <;> exact he
    | call c =>
      simp only [stateP, hop] at he ⊢
      split at he
      · cases he
      · rename_i args hargs
        cases hcal : c.callee with
        | builtin b => refine ⟨0, ?_⟩; simp only [hcal] at he ⊢; exact he
        | invoke a b => simp only [hcal] at he; cases he
        | value f =>
          simp only [hcal] at he ⊢
          split at he
          · exact (L.cl _ _ _ _ _).1 he
          · exact (L.yl _ _ _ _ _ _).1 he
          · cases he
    | _ => refine ⟨0, ?_⟩; simp only [stateP, hop] at he ⊢ <;> exact he
  · rintro ⟨n, he⟩
    exact stateP_mono (fun a b c d r h => (L.cl _ _ _ _ _).2 ⟨n, h⟩) (fun a b c d e r h => (L.yl _ _ _ _ _ _).2 ⟨n, h⟩) he
theorem opP_lim (L : Lims cfs yfs cf yf) {all : List Oper} {o : Oper} {r} (he : opP C cf yf all K sl h o = some r) : ∃ n, opP C (cfs n) (yfs n) all K sl h o = some r := by
  unfold opP at he ⊢
  split at he
  · exact ⟨0, he⟩
  · split at he
    · exact ⟨0, he⟩
    · exact (stateP_lim L).1 he
theorem opsP_lim (L : Lims cfs yfs cf yf) {all : List Oper} : ∀ {l : List Oper} {sl : PSL} {h : PH} {r : PSL × PH}, opsP C cf yf K all l sl h = some r → ∃ n, opsP C (cfs n) (yfs n) K all l sl h = some r
  | [], sl, h, r, he => ⟨0, he⟩
  | o :: l, sl, h, r, he => by
    simp only [opsP] at he ⊢
    split at he
    · rename_i hw
      split at he
      · rename_i v h1 ho
        obtain ⟨n, hn⟩ := opP_lim L ho
        obtain ⟨m, hm⟩ := opsP_lim L he
        refine ⟨max n m, ?_⟩
        rw [opP_mono (L.c _ _ (Nat.le_max_left n m)) (L.y _ _ (Nat.le_max_left n m)) hn]
        exact opsP_mono (L.c _ _ (Nat.le_max_right n m)) (L.y _ _ (Nat.le_max_right n m)) hm
      · cases he
    · exact opsP_lim L he
    · cases he
theorem stepP_lim (L : Lims cfs yfs cf yf) {all : List Oper} {masks : Array Nat} {o : Oper} {i : Nat} {s s' : PD} (he : stepP C cf yf K all masks o i s = some s') : ∃ n, stepP C (cfs n) (yfs n) K all masks o i s = some s' := by
  unfold stepP at he ⊢
  try dsimp only at he ⊢
  split at he
  · cases he
  · exact ⟨0, he⟩
  · split at he
    · exact ⟨0, he⟩
    · split at he
      · exact ⟨0, he⟩
      · split at he
        · rename_i hcnd
          split at he
          · rename_i v h' hst
            obtain ⟨n, hn⟩ := (stateP_lim L).1 hst
            exact ⟨n, by rw [if_pos hcnd, hn]; exact he⟩
          · cases he
        · cases he
theorem passP_lim (L : Lims cfs yfs cf yf) {all : List Oper} {masks : Array Nat} : ∀ {l : List Oper} {i : Nat} {s s' : PD}, passP C cf yf K all masks l i s = some s' → ∃ n, passP C (cfs n) (yfs n) K all masks l i s = some s'
  | [], i, s, s', he => ⟨0, he⟩
  | o :: l, i, s, s', he => by
    simp only [passP] at he ⊢
    split at he
    · rename_i st1 h1
      obtain ⟨n, hn⟩ := stepP_lim L h1
      obtain ⟨m, hm⟩ := passP_lim L he
      refine ⟨max n m, ?_⟩
      rw [stepP_mono (L.c _ _ (Nat.le_max_left n m)) (L.y _ _ (Nat.le_max_left n m)) hn]
      exact passP_mono (L.c _ _ (Nat.le_max_right n m)) (L.y _ _ (Nat.le_max_right n m)) hm
    · cases he
theorem drawP_lim (L : Lims cfs yfs cf yf) {ops : Array Oper} {r : PSL × PH} (he : drawP C cf yf K ops sl h = some r) : ∃ n, drawP C (cfs n) (yfs n) K ops sl h = some r := by
  unfold drawP at he ⊢
  rw [Option.map_eq_some_iff] at he
  obtain ⟨s, hp, e⟩ := he
  obtain ⟨n, hn⟩ := passP_lim L hp
  exact ⟨n, by rw [hn, Option.map_some, e]⟩

theorem lims : Lims (fun n => callF C (fun K' => exec C n K' true)) (fun n => yieldF (fun K' => exec C n K' false)) (callI C) (yieldI C) where
  c := fun n m hl => callF_mono fun a b c d r h => exec_le hl h
  y := fun n m hl => yieldF_mono fun a b c d r h => exec_le hl h
  cl := fun a b d e r => callI_iff
  yl := fun a b d e f r => yieldI_iff

theorem exI_skip : exI C K rng .skip sl h = some (.normal, sl, h) := exI_iff.2 ⟨1, rfl⟩
theorem exI_exit {id : Nat} : exI C K rng (.exit id) sl h = some (.exit id, sl, h) := exI_iff.2 ⟨1, rfl⟩
theorem exI_ret : exI C K rng .ret sl h = some (.ret, sl, h) := exI_iff.2 ⟨1, rfl⟩
theorem exI_region {id : Nat} {ops : Array Oper} : exI C K rng (.region id ops false) sl h = (opsP C (callI C) (yieldI C) K ops.toList ops.toList sl h).map fun (sl', h') => (.normal, sl', h') := by
  refine lim_ext grows_ex (fun n r hn => ?_) (fun r hr => ?_)
  · cases n with
    | zero => simp [exec] at hn
    | succ n =>
      rw [exec] at hn
      try dsimp only at hn
      simp only [Bool.false_eq_true, if_false, Option.map_eq_some_iff] at hn
      obtain ⟨x, hx, e⟩ := hn
      rw [opsP_mono (cf' := callI C) (yf' := yieldI C) (fun a b c d r h => callI_iff.2 ⟨n, h⟩) (fun a b c d e r h => yieldI_iff.2 ⟨n, h⟩) hx]
      exact congrArg some e
  · rw [Option.map_eq_some_iff] at hr
    obtain ⟨x, hx, e⟩ := hr
    obtain ⟨n, hn⟩ := opsP_lim lims hx
    refine ⟨n + 1, ?_⟩
    rw [exec]
    try dsimp only
    simp only [Bool.false_eq_true, if_false]
    rw [hn]
    exact congrArg some e
theorem exI_draw {id : Nat} {ops : Array Oper} : exI C K rng (.region id ops true) sl h = (drawP C (callI C) (yieldI C) K ops sl h).map fun (sl', h') => (.normal, sl', h') := by
  refine lim_ext grows_ex (fun n r hn => ?_) (fun r hr => ?_)
  · cases n with
    | zero => simp [exec] at hn
    | succ n =>
      rw [exec] at hn
      try dsimp only at hn
      simp only [if_true, Option.map_eq_some_iff] at hn
      obtain ⟨x, hx, e⟩ := hn
      rw [drawP_mono (cf' := callI C) (yf' := yieldI C) (fun a b c d r h => callI_iff.2 ⟨n, h⟩) (fun a b c d e r h => yieldI_iff.2 ⟨n, h⟩) hx]
      exact congrArg some e
  · rw [Option.map_eq_some_iff] at hr
    obtain ⟨x, hx, e⟩ := hr
    obtain ⟨n, hn⟩ := drawP_lim lims hx
    refine ⟨n + 1, ?_⟩
    rw [exec]
    try dsimp only
    simp only [if_true]
    rw [hn]
    exact congrArg some e

def thenI (r : Option (Ex × PSL × PH)) (f : PSL → PH → Option (Ex × PSL × PH)) : Option (Ex × PSL × PH) :=
  match r with
  | some (.normal, sl, h) => f sl h
  | r => r
theorem thenI_normal {f : PSL → PH → Option (Ex × PSL × PH)} : thenI (some (.normal, sl, h)) f = f sl h := rfl
theorem thenI_exit {id : Nat} {f : PSL → PH → Option (Ex × PSL × PH)} : thenI (some (.exit id, sl, h)) f = some (.exit id, sl, h) := rfl
theorem thenI_ret {f : PSL → PH → Option (Ex × PSL × PH)} : thenI (some (.ret, sl, h)) f = some (.ret, sl, h) := rfl

theorem exI_seq {a b : Code} : exI C K rng (.seq a b) sl h = thenI (exI C K rng a sl h) fun sl h => exI C K rng b sl h := by
  refine lim_ext grows_ex (fun n r hn => ?_) (fun r hr => ?_)
  · cases n with
    | zero => simp [exec] at hn
    | succ n =>
      rw [exec] at hn
      try dsimp only at hn
      split at hn
      · rename_i sl1 h1 hx
        rw [exI_iff.2 ⟨n, hx⟩]
        exact exI_iff.2 ⟨n, hn⟩
      · rename_i hne
        rw [exI_iff.2 ⟨n, hn⟩]
        obtain ⟨x, sl1, h1⟩ := r
        cases x with
        | normal => exact absurd hn (hne _ _)
        | exit id => rfl
        | ret => rfl
  · cases ha : exI C K rng a sl h with
    | none => rw [ha] at hr; cases hr
    | some q =>
      rw [ha] at hr
      obtain ⟨n, hn⟩ := exI_iff.1 ha
      obtain ⟨x, sl1, h1⟩ := q
      cases x with
      | normal =>
        obtain ⟨m, hm⟩ := exI_iff.1 (show exI C K rng b sl1 h1 = some r from hr)
        refine ⟨max n m + 1, ?_⟩
        rw [exec]
        try dsimp only
        rw [exec_le (Nat.le_max_left n m) hn]
        exact exec_le (Nat.le_max_right n m) hm
      | exit id => cases hr; refine ⟨n + 1, ?_⟩; rw [exec]; try dsimp only
                   rw [hn]
      | ret => cases hr; refine ⟨n + 1, ?_⟩; rw [exec]; try dsimp only
               rw [hn]
theorem exI_cond {c : Operand} {a b : Code} : exI C K rng (.cond c a b) sl h = (match opdP sl c with
    | some (.bool true) => exI C K rng a sl h
    | some (.bool false) => exI C K rng b sl h
    | _ => none) := by
  refine lim_ext grows_ex (fun n r hn => ?_) (fun r hr => ?_)
  · cases n with
    | zero => simp [exec] at hn
    | succ n =>
      rw [exec] at hn
      try dsimp only at hn
      split at hn
      · rename_i hc; rw [hc]; exact exI_iff.2 ⟨n, hn⟩
      · rename_i hc; rw [hc]; exact exI_iff.2 ⟨n, hn⟩
      · cases hn
  · split at hr
    · rename_i hc
      obtain ⟨n, hn⟩ := exI_iff.1 hr
      exact ⟨n + 1, by rw [exec]; try dsimp only
                       rw [hc]; exact hn⟩
    · rename_i hc
      obtain ⟨n, hn⟩ := exI_iff.1 hr
      exact ⟨n + 1, by rw [exec]; try dsimp only
                       rw [hc]; exact hn⟩
    · cases hr
def blockI (id : Nat) (r : Option (Ex × PSL × PH)) : Option (Ex × PSL × PH) :=
  match r with
  | some (.exit id', sl, h) => if id' = id then some (.normal, sl, h) else some (.exit id', sl, h)
  | r => r
theorem blockI_normal {id : Nat} : blockI id (some (.normal, sl, h)) = some (.normal, sl, h) := rfl
theorem blockI_ret {id : Nat} : blockI id (some (.ret, sl, h)) = some (.ret, sl, h) := rfl
theorem blockI_exit {id id' : Nat} : blockI id (some (.exit id', sl, h)) = if id' = id then some (.normal, sl, h) else some (.exit id', sl, h) := rfl
theorem exI_block {id : Nat} {b : Code} : exI C K rng (.block id b) sl h = blockI id (exI C K rng b sl h) := by
  refine lim_ext grows_ex (fun n r hn => ?_) (fun r hr => ?_)
  · cases n with
    | zero => simp [exec] at hn
    | succ n =>
      rw [exec] at hn
      try dsimp only at hn
      split at hn
      · rename_i id' sl1 h1 hx
        rw [exI_iff.2 ⟨n, hx⟩]
        exact hn
      · rename_i hne
        rw [exI_iff.2 ⟨n, hn⟩]
        obtain ⟨x, sl1, h1⟩ := r
        cases x with
        | exit id' => exact absurd hn (hne _ _ _)
        | normal => rfl
        | ret => rfl
  · cases ha : exI C K rng b sl h with
    | none => rw [ha] at hr; cases hr
    | some q =>
      rw [ha] at hr
      obtain ⟨n, hn⟩ := exI_iff.1 ha
      refine ⟨n + 1, ?_⟩
      rw [exec]
      try dsimp only
      rw [hn]
      exact hr
theorem exI_loop {b : Code} : exI C K rng (.loop b) sl h = thenI (exI C K rng b sl h) fun sl' h' => exI C K rng (.loop b) (keepP sl sl') h' := by
  refine lim_ext grows_ex (fun n r hn => ?_) (fun r hr => ?_)
  · cases n with
    | zero => simp [exec] at hn
    | succ n =>
      rw [exec] at hn
      try dsimp only at hn
      split at hn
      · rename_i sl1 h1 hx
        rw [exI_iff.2 ⟨n, hx⟩]
        exact exI_iff.2 ⟨n, hn⟩
      · rename_i hne
        rw [exI_iff.2 ⟨n, hn⟩]
        obtain ⟨x, sl1, h1⟩ := r
        cases x with
        | normal => exact absurd hn (hne _ _)
        | exit id => rfl
        | ret => rfl
  · cases ha : exI C K rng b sl h with
    | none => rw [ha] at hr; cases hr
    | some q =>
      rw [ha] at hr
      obtain ⟨n, hn⟩ := exI_iff.1 ha
      obtain ⟨x, sl1, h1⟩ := q
      cases x with
      | normal =>
        obtain ⟨m, hm⟩ := exI_iff.1 (show exI C K rng (.loop b) (keepP sl sl1) h1 = some r from hr)
        refine ⟨max n m + 1, ?_⟩
        rw [exec]
        try dsimp only
        rw [exec_le (Nat.le_max_left n m) hn]
        exact exec_le (Nat.le_max_right n m) hm
      | exit id => cases hr; refine ⟨n + 1, ?_⟩; rw [exec]; try dsimp only
                   rw [hn]
      | ret => cases hr; refine ⟨n + 1, ?_⟩; rw [exec]; try dsimp only
               rw [hn]

theorem callF_lim {exs : Nat → EX} {ex : EX} (hm : ∀ n m, n ≤ m → Le4 (exs n) (exs m)) (hl : ∀ a b d e r, ex a b d e = some r ↔ ∃ n, exs n a b d e = some r) {f : Nat} {args : List PV} {r} :
    callF C ex K f args h = some r ↔ ∃ n, callF C (exs n) K f args h = some r := by
  constructor
  · intro he
    have : ∃ n, ∀ K c sl hh q, ex K c sl hh = some q → (∃ fn, C.F f = some fn) → True := ⟨0, fun _ _ _ _ _ _ _ => trivial⟩
    unfold callF at he ⊢
    split at he
    · exact ⟨0, he⟩
    split at he
    · cases he
    · rename_i fn hfn
      split at he
      · cases he
      · rename_i c hc
        split at he
        · rename_i hraw
          cases hx : ex { base := h.next, lo := K.lo, ok := K.ok } c (zipP 0 args) { h with next := h.next + fn.ntmps } with
          | none => rw [hx] at he; cases he
          | some q =>
            obtain ⟨n, hn⟩ := (hl _ _ _ _ _).1 hx
            refine ⟨n, ?_⟩
            rw [if_pos hraw, hn]
            rw [hx] at he
            exact he
        · rename_i hraw
          try dsimp only at he ⊢
          split at he
          · cases he
          · rename_i args' hargs
            split at he
            · rename_i hok
              cases hx : ex { base := h.next, lo := h.next, ok := reach h 4 (args'.flatMap (refs 3)) } c (zipP 0 args') { h.freeze (args.flatMap ownV) with next := h.next + fn.ntmps } with
              | none => rw [hx] at he; cases he
              | some q =>
                obtain ⟨n, hn⟩ := (hl _ _ _ _ _).1 hx
                refine ⟨n, ?_⟩
                rw [if_neg hraw, if_pos hok, hn]
                rw [hx] at he
                exact he
            · cases he
  · rintro ⟨n, he⟩
    exact callF_mono (fun a b c d r h => (hl _ _ _ _ _).2 ⟨n, h⟩) _ _ _ _ _ he

theorem callI_eq {f : Nat} {args : List PV} : callI C K f args h = callF C (fun K' => exI C K' true) K f args h := by
  refine lim_ext grows_call (fun n r hn => ?_) (fun r hr => ?_)
  · exact callF_mono (fun a b c d r h => exI_iff.2 ⟨n, h⟩) _ _ _ _ _ hn
  · exact (callF_lim (exs := fun n K' => exec C n K' true) (fun n m hl a b c d r h => exec_le hl h) (fun a b d e r => exI_iff)).1 hr

theorem yieldI_eq {l ver : Nat} {args : List PV} : yieldI C K l ver args h = yieldF (fun K' => exI C K' false) K l ver args h := by
  refine lim_ext grows_yield (fun n r hn => ?_) (fun r hr => ?_)
  · exact yieldF_mono (fun a b c d r h => exI_iff.2 ⟨n, h⟩) _ _ _ _ _ _ hn
  · unfold yieldF at hr ⊢
    split at hr
    · rename_i w K0 sl0 ps as bd hl
      split at hr
      · rename_i hc
        replace hr : (match exI C K0 false as (putsP sl0 (ps.zip args)) (h.put l ver .gone) with
          | some (.normal, sl1, h1) =>
            match exI C K0 false bd sl1 h1 with
            | some (.normal, _, h2) =>
              match h2.get l with
              | some (w2, .gone) => if w2 = ver then some (PV.bool true, h2.put l ver (.loop K0 sl0 ps as bd)) else none
              | _ => none
            | _ => none
          | _ => none) = some r := hr
        cases hx : exI C K0 false as (putsP sl0 (ps.zip args)) (h.put l ver .gone) with
        | none => rw [hx] at hr; cases hr
        | some q =>
          rw [hx] at hr
          obtain ⟨n, hn⟩ := exI_iff.1 hx
          obtain ⟨x, sl1, h1⟩ := q
          cases x with
          | normal =>
            try dsimp only at hr
            cases hx2 : exI C K0 false bd sl1 h1 with
            | none => rw [hx2] at hr; cases hr
            | some q2 =>
              rw [hx2] at hr
              obtain ⟨m, hm⟩ := exI_iff.1 hx2
              refine ⟨max n m, ?_⟩
              simp only [hl]
              rw [if_pos hc, exec_le (Nat.le_max_left n m) hn]
              try dsimp only
              rw [exec_le (Nat.le_max_right n m) hm]
              exact hr
          | exit id => cases hr
          | ret => cases hr
      · cases hr
    · cases hr

theorem exI_range {f : Operand} {ps : Array Tmp} {as bd : Code} : exI C K true (.rangeFunc f ps as bd) sl h = (match opdP sl f with
        | some (.fn g first captured) =>
          if C.raw g then
            match callI C K g (first ++ [.yield h.next 0] ++ captured) { h.put h.next 0 (.loop K sl ps.toList as bd) with next := h.next + 1 } with
            | some (_, h') => match h'.get h.next with
              | some (0, .loop _ _ _ _ _) => some (.normal, sl, h'.put h.next 0 .gone)
              | _ => none
            | none => none
          else none
        | _ => none) := by
  refine lim_ext grows_ex (fun n r hn => ?_) (fun r hr => ?_)
  · cases n with
    | zero => simp [exec] at hn
    | succ n =>
      rw [exec] at hn
      try dsimp only at hn
      simp only [if_true] at hn
      split at hn
      · rename_i g first captured hf
        split at hn
        · rename_i hraw
          rw [hf]
          try dsimp only
          rw [if_pos hraw]
          split at hn
          · rename_i u h2 hx
            have hx' : callI C K g (first ++ [.yield h.next 0] ++ captured) { h.put h.next 0 (.loop K sl ps.toList as bd) with next := h.next + 1 } = some (u, h2) := callI_iff.2 ⟨n, hx⟩
            rw [show callI C K g (first ++ [.yield h.next 0] ++ captured) { next := h.next + 1, get := (h.put h.next 0 (.loop K sl ps.toList as bd)).get } = some (u, h2) from hx']
            exact hn
          · cases hn
        · cases hn
      · cases hn
  · split at hr
    · rename_i g first captured hf
      split at hr
      · rename_i hraw
        cases hx : callI C K g (first ++ [.yield h.next 0] ++ captured) { h.put h.next 0 (.loop K sl ps.toList as bd) with next := h.next + 1 } with
        | none => rw [hx] at hr; cases hr
        | some q =>
          rw [hx] at hr
          obtain ⟨n, hn⟩ := callI_iff.1 hx
          refine ⟨n + 1, ?_⟩
          rw [exec]
          try dsimp only
          simp only [if_true]
          rw [hf]
          try dsimp only
          rw [if_pos hraw]
          have hn' : callF C (fun K' => exec C n K' true) K g (first ++ [.yield h.next 0] ++ captured) { h.put h.next 0 (.loop K sl ps.toList as bd) with next := h.next + 1 } = some q := hn
          rw [hn']
          exact hr
      · cases hr
    · cases hr
end
end Go.Pure
end
