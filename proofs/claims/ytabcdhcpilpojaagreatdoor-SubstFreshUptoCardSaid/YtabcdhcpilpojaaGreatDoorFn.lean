/- Functions on names, each once. -/
import Derived.Test.YtabcdhcpilpojaaGreatDoorTym
import Derived.Test.YtabcdhcpilpojaaGreatDoorPD
section
set_option linter.unusedSimpArgs false
set_option linter.unusedVariables false
namespace Go.Proofs.YtabcdhcpilpojaaGreatDoor
open Go Go.Pure
open Go.Virt (Ex Ctx Ty TK)
abbrev Str := List Nat
/-- What is known of the function without arguments that the laws ask first. -/
noncomputable def vE : Ctx := { vC with ext := fun f a => if Nat.beq f 19 && a.isEmpty then some (.bool true) else none }
@[simp] theorem vE_T (t : Nat) : vE.T t = vC.T t := by simp only [vE]
theorem ans_19 : Ans vE 19 [] (.bool true) := by
  intro K H
  rw [callI_eq]
  rfl

theorem find_set (es : List Str) (x : Str) : mapFindP (es.map fun s => (.str s, .bool true)) (.str x) = some (if x ∈ es then some (.bool true) else none) := by
  induction es with
  | nil => simp
  | cons e es ih =>
    simp only [List.map_cons, mapFindP, sameKeyP, List.mem_cons]
    by_cases h : x = e
    · subst h; simp
    · have : (x == e) = false := by simpa using h
      simp [this, h, ih]
theorem put_set (es : List Str) (x : Str) (h : x ∉ es) : mapPutP (es.map fun s => (.str s, .bool true)) (.str x) (.bool true) = some ((es ++ [x]).map fun s => (.str s, .bool true)) := by
  induction es with
  | nil => simp
  | cons e es ih =>
    simp only [List.mem_cons, not_or] at h
    have : (x == e) = false := by simpa using h.1
    simp only [List.map_cons, mapPutP, sameKeyP, this, ih h.2, Option.map_some, List.cons_append]

def letterR (c : Nat) : Bool := (decide (97 ≤ c) && decide (c ≤ 122)) || (decide (65 ≤ c) && decide (c ≤ 90))
theorem ans_88 (c : Nat) : Ans vE 88 [.int .u8 c] (.bool (letterR c)) := by
  intro K H
  refine wp_call (fn := Tryz.f88) rfl Tryz.func88 rfl rfl rfl rfl ?_ rfl
  ((try simp [*, Tryz.f88]); repeat' (refine ifB_intro (fun _ => ?_) (fun _ => ?_) <;> (try simp [*, Tryz.f88])))
  all_goals simp [letterR]
  all_goals (first | done | omega | (simp at *; done) | (simp at *; omega) | (simp at *; rw [Bool.eq_iff_iff]; simp; omega))

theorem ans_84 (xs : List Str) (s : Str) (hn : xs.length < 2 ^ 62) : Ans vE 84 [.lst 9 (xs.map .str), .str s] (.bool (decide (s ∈ xs))) := by
  intro K H
  refine wp_call (fn := Tryz.f84) rfl Tryz.func84 rfl rfl rfl rfl ?_ rfl
  simp [Tryz.f84]
  refine wp_loop_inv (fun n sl h => ∃ done rest, xs = done ++ rest ∧ n = rest.length ∧ s ∉ done ∧ sl 0 = some (.lst 9 (xs.map .str)) ∧ sl 1 = some (.str s) ∧ sl 5 = some (.int .i64 done.length) ∧ sl 4 = some (.bool false)) ?_ xs.length _ _ ⟨[], xs, rfl, rfl, by simp, by simp, by simp, by simp, by simp⟩
  rintro n sl h ⟨done, rest, hx, hn', hs, h0, h1, h5, h4⟩
  cases rest with
  | nil =>
    simp at hx
    subst hx
    ((try simp [*, h0, h1, h5, h4]); repeat' (refine ifB_intro (fun _ => ?_) (fun _ => ?_) <;> (try simp [*, h0, h1, h5, h4])))
  | cons x rest =>
    subst hx
    have hw : (IntKind.i64.wrap (↑done.length + 1)) = ↑done.length + 1 := wrap_i64 (by omega) (by simp at hn; omega)
    have hl : (↑done.length : Int) < ↑done.length + (↑rest.length + 1) := by omega
    ((try simp [*, h0, h1, h5, h4, hw, hl, -List.map_append]); repeat' (refine ifB_intro (fun _ => ?_) (fun _ => ?_) <;> (try simp [*, h0, h1, h5, h4, hw, hl, -List.map_append])))
    · rename_i h
      simp at h
      exact Or.inl h.symm
    · rename_i h
      simp at h
      exact ⟨rest.length, by omega, done ++ [x], rest, by simp, rfl, by simp [hs, Ne.symm h], by simp⟩

def reservedR : List Str := [[97, 110, 100], [111, 114], [110, 111, 116], [105, 116, 101], [116, 114, 117, 101], [102, 97, 108, 115, 101], [108, 101, 116], [102, 111, 114, 97, 108, 108], [101, 120, 105, 115, 116, 115], [100, 105, 115, 116, 105, 110, 99, 116], [100, 105, 118], [109, 111, 100], [115, 101, 108, 101, 99, 116], [115, 116, 111, 114, 101], [99, 111, 110, 115, 116], [66, 111, 111, 108], [73, 110, 116], [82, 101, 97, 108], [65, 114, 114, 97, 121]]
theorem ans_87 : Ans vE 87 [] (.lst 9 (reservedR.map .str)) := by
  intro K H
  refine wp_call (fn := Tryz.f87) rfl Tryz.func87 rfl rfl rfl rfl ?_ rfl
  simp [Tryz.f87, litUse]
  rfl
theorem reservedR_length : reservedR.length = 19 := rfl
def firstR (c : Nat) : Bool := letterR c || c == 95 || c == 36 || c == 33
def okR (z : Bool) (c : Nat) : Bool := firstR c || (!z && ((decide (48 ≤ c) && decide (c ≤ 57)) || c == 46 || c == 64))
def oksR : Nat → Str → Bool
  | _, [] => true
  | k, c :: r => okR (k == 0) c && oksR (k + 1) r
def nameR (s : Str) : Bool := !(s == []) && decide (s.length ≤ 40) && !decide (s ∈ reservedR) && oksR 0 s

theorem okR_iff {k c : Nat} : okR (k == 0) c = true ↔ letterR c = true ∨ c = 95 ∨ c = 36 ∨ c = 33 ∨ (k ≠ 0 ∧ ((48 ≤ c ∧ c ≤ 57) ∨ c = 46 ∨ c = 64)) := by
  simp [okR, firstR]
  constructor
  · rintro ((((h | h) | h) | h) | h) <;> simp [h]
    rcases h.2 with (h | h) | h <;> simp [h]
  · rintro (h | h | h | h | ⟨h, h' | h' | h'⟩) <;> simp [*]

theorem ans_30 (s : Str) (hn : s.length < 2 ^ 62) : Ans vE 30 [.str s] (.bool (nameR s)) := by
  intro K H
  refine wp_call (fn := Tryz.f30) rfl Tryz.func30 rfl rfl rfl rfl ?_ rfl
  have h84 : ∀ s, Ans vE 84 [.lst 9 (reservedR.map .str), .str s] (.bool (decide (s ∈ reservedR))) := fun s => ans_84 reservedR s (by decide)
  ((try simp [*, Tryz.f30, ans_87, h84]); repeat' (refine ifB_intro (fun _ => ?_) (fun _ => ?_) <;> (try simp [*, Tryz.f30, ans_87, h84])))
  · rename_i h
    simp at h
    simp [nameR, h]
  · rename_i h
    simp at h
    have : ¬ s.length ≤ 40 := by omega
    simp [nameR, this]
  · simp [nameR, *]
  refine wp_loop_inv (fun n sl h => ∃ done rest, s = done ++ rest ∧ n = rest.length ∧ oksR 0 s = oksR done.length rest ∧ sl 0 = some (.str s) ∧ sl 3 = some (.int .i64 done.length) ∧ sl 2 = some (.bool false)) ?_ s.length _ _ ⟨[], s, rfl, rfl, by simp, by simp, by simp, by simp⟩
  rintro n sl h ⟨done, rest, hx, hn', hs, h0, h3, h2⟩
  have hle : s.length ≤ 40 := by (first | done | omega | (simp at *; done) | (simp at *; omega) | (simp at *; rw [Bool.eq_iff_iff]; simp; omega))
  have hne : s ≠ [] := by (first | done | omega | (simp at *; done) | (simp at *; omega) | (simp at *; rw [Bool.eq_iff_iff]; simp; omega))
  have hnr : s ∉ reservedR := by (first | done | omega | (simp at *; done) | (simp at *; omega) | (simp at *; rw [Bool.eq_iff_iff]; simp; omega))
  have hname : nameR s = oksR done.length rest := by simp [nameR, hle, hne, hnr, hs]
  rw [hname]
  clear hname

  cases rest with
  | nil => 
    simp at hx
    subst hx
    ((try simp [*, h0, h3, h2, oksR]); repeat' (refine ifB_intro (fun _ => ?_) (fun _ => ?_) <;> (try simp [*, h0, h3, h2, oksR])))
  | cons x rest =>
    have hw : (IntKind.i64.wrap (↑done.length + 1)) = ↑done.length + 1 := wrap_i64 (by omega) (by simp [hx] at hle; omega)
    have hl : (↑done.length : Int) < ↑done.length + (↑rest.length + 1) := by omega
    have hl2 : (↑s.length : Int) = ↑done.length + (↑rest.length + 1) := by rw [hx]; simp
    have hg : s[done.length]? = some x := by rw [hx]; simp
    ((try simp [*, hw, hl, hl2, hg, ans_88]); repeat' (refine ifB_intro (fun _ => ?_) (fun _ => ?_) <;> (try simp [*, hw, hl, hl2, hg, ans_88])))
    all_goals first
      | (have hk : okR (done.length == 0) x = true := by
          rw [okR_iff]
          first | (left; assumption) | ((try simp only [beq_iff_eq, beq_eq_false_iff_ne, ne_eq, bne_iff_ne, bne_eq_false_iff_eq, decide_eq_true_eq, decide_eq_false_iff_not, Bool.not_eq_true, Bool.not_eq_false] at *); omega)
         exact ⟨rest.length, by omega, done ++ [x], rest, by simp, rfl, by rw [← hx, hs]; simp [oksR, hk], by simp⟩)
      | (have hk : ¬ okR (done.length == 0) x = true := by
          rw [okR_iff]
          rintro (hh | hh)
          · simp_all
          · ((try simp only [beq_iff_eq, beq_eq_false_iff_ne, ne_eq, bne_iff_ne, bne_eq_false_iff_eq, decide_eq_true_eq, decide_eq_false_iff_not, Bool.not_eq_true, Bool.not_eq_false] at *); omega)
         simp [oksR, hk]
         done)
      | trace_state
end Go.Proofs.YtabcdhcpilpojaaGreatDoor
end

section
set_option linter.unusedSimpArgs false
set_option linter.unusedVariables false
namespace Go.Proofs.YtabcdhcpilpojaaGreatDoor
open Go Go.Pure
open Go.Virt (Ex Ctx Ty TK)

def digs (n : Nat) : Str := if n < 10 then [48 + n] else digs (n / 10) ++ [48 + n % 10]

/-- A number's rest, as the generators take it. -/
def modI (v : Int) (n : Nat) : Nat := (IntKind.u64.wrap v).toNat % n
theorem modI_lt (v : Int) {n : Nat} (h : 0 < n) : modI v n < n := Nat.mod_lt _ h

theorem ans_27 (v : Int) (n : Nat) (h0 : 0 < n) (hn : n < 2 ^ 62) : Ans vE 27 [.int .i64 v, .int .i64 n] (.int .i64 (modI v n)) := by
  intro K H
  refine wp_call (fn := Tryz.f27) rfl Tryz.func27 rfl rfl rfl rfl ?_ rfl
  have h1 : IntKind.u64.wrap n = n := wrap_u64' (by omega) (by omega)
  have h2 : (IntKind.u64.wrap v).tmod n = modI v n := by
    have := @wrap_u64 v
    rw [Int.tmod_eq_emod_of_nonneg this.1]
    unfold modI
    rw [Int.natCast_emod, Int.toNat_of_nonneg this.1]
  have h3 : IntKind.i64.wrap (modI v n) = modI v n := wrap_i64 (by omega) (by have := modI_lt v h0; omega)
  have h4 : n ≠ 0 := by omega
  ((try simp [*, Tryz.f27, h1, h2, h3]); repeat' (refine ifB_intro (fun _ => ?_) (fun _ => ?_) <;> (try simp [*, Tryz.f27, h1, h2, h3])))

theorem ans_38 (n : Nat) (hn : n < 2 ^ 62) : Ans vE 38 [.int .i64 n] (.str (digs n)) := by
  intro K H
  refine wp_call (fn := Tryz.f38) rfl Tryz.func38 rfl rfl rfl rfl ?_ rfl
  ((try simp [*, Tryz.f38]); repeat' (refine ifB_intro (fun _ => ?_) (fun _ => ?_) <;> (try simp [*, Tryz.f38])))
  refine wp_loop_inv (fun m sl h => ∃ (v : Nat) (s : Str), m = v + (if s = [] then 1 else 0) ∧ (s = [] → v = n) ∧ v ≤ n ∧ s.length + v < 2 ^ 62 ∧ (s = [] ∨ (if v = 0 then s = digs n else digs n = digs v ++ s)) ∧ sl 0 = some (.int .i64 n) ∧ sl 4 = some (.int .i64 v) ∧ sl 3 = some (.str s)) ?_ (n + 1) _ _ ⟨n, [], by simp, by simp, by simp, by simpa using hn, by simp, by simp, by simp, by simp⟩
  rintro m sl h ⟨v, s, hm, h1, h2, hb, h3, h0, h4, h5⟩
  have hq : (↑v : Int).tmod 10 = ((v % 10 : Nat) : Int) := by rw [Int.tmod_eq_emod_of_nonneg (by omega)]; omega
  have hq1 : ¬ (((v % 10 : Nat) : Int) < 0) := by omega
  have hq2 : IntKind.i64.wrap (48 + ((v % 10 : Nat) : Int)) = 48 + ((v % 10 : Nat) : Int) := wrap_i64 (by omega) (by omega)
  have hq3 : IntKind.u8.wrap (48 + ((v % 10 : Nat) : Int)) = 48 + ((v % 10 : Nat) : Int) := wrap_u8 (by omega) (by omega)
  have hq4 : IntKind.i64.wrap (↑v / 10) = ((v / 10 : Nat) : Int) := by rw [wrap_i64 (by omega) (by omega)]; omega
  have hq5 : 1 + s.length ≤ 4611686018427387904 := by omega
  ((try simp [*, hq, hq1, hq2, hq3, hq4, hq5, -Int.natCast_emod, -Int.natCast_ediv]); repeat' (refine ifB_intro (fun _ => ?_) (fun _ => ?_) <;> (try simp [*, hq, hq1, hq2, hq3, hq4, hq5, -Int.natCast_emod, -Int.natCast_ediv])))
  · rename_i hv
    have hv0 : v ≠ 0 := by ((try simp only [beq_iff_eq, beq_eq_false_iff_ne, ne_eq, bne_iff_ne, bne_eq_false_iff_eq, decide_eq_true_eq, decide_eq_false_iff_not, Bool.not_eq_true, Bool.not_eq_false] at *); omega)
    refine ⟨v / 10, by split <;> omega, v / 10, _, ?_, ?_, ?_, ?_, Or.inr ?_, rfl, rfl⟩
    · simp
    · simp
    · omega
    · simp only [List.length_cons]; omega
    · have e : (48 + ((v % 10 : Nat) : Int)).toNat % 256 = 48 + v % 10 := by omega
      rw [e]
      have hd : digs n = digs v ++ s := by
        rcases h3 with h3 | h3
        · rw [h3, h1 h3]; simp
        · simpa [hv0] using h3
      split
      · rename_i hz
        rw [hd, digs, if_pos (by omega), Nat.mod_eq_of_lt (by omega)]
        rfl
      · rename_i hz
        rw [hd]
        conv => lhs; rw [digs]
        rw [if_neg (by omega), List.append_assoc]
        rfl
  · rename_i hv hs
    simp at hs
    have hv0 : v = 0 := by ((try simp only [beq_iff_eq, beq_eq_false_iff_ne, ne_eq, bne_iff_ne, bne_eq_false_iff_eq, decide_eq_true_eq, decide_eq_false_iff_not, Bool.not_eq_true, Bool.not_eq_false] at *); omega)
    subst hs
    have hn0 := h1 rfl
    subst hv0
    subst hn0
    refine ⟨0, by simp, 0, _, ?_, ?_, ?_, ?_, Or.inr ?_, rfl, rfl⟩
    · simp
    · simp
    · omega
    · simp
    · simp [digs]
  · ((try simp only [beq_iff_eq, beq_eq_false_iff_ne, ne_eq, bne_iff_ne, bne_eq_false_iff_eq, decide_eq_true_eq, decide_eq_false_iff_not, Bool.not_eq_true, Bool.not_eq_false] at *); omega)
  · rename_i hv hs _
    have hv0 : v = 0 := by ((try simp only [beq_iff_eq, beq_eq_false_iff_ne, ne_eq, bne_iff_ne, bne_eq_false_iff_eq, decide_eq_true_eq, decide_eq_false_iff_not, Bool.not_eq_true, Bool.not_eq_false] at *); omega)
    simp at hs
    rcases h3 with h3 | h3
    · exact absurd h3 hs
    · simpa [hv0] using h3
end Go.Proofs.YtabcdhcpilpojaaGreatDoor
end

section
set_option linter.unusedSimpArgs false
set_option linter.unusedVariables false
namespace Go.Proofs.YtabcdhcpilpojaaGreatDoor
open Go Go.Pure
open Go.Virt (Ex Ctx Ty TK)

def shortsB (xs : List Str) : Bool := xs.all (fun s => decide (s.length ≤ 60)) && decide (xs.length ≤ 12)

theorem ans_26 (xs : List Str) (hn : xs.length < 2 ^ 62) : Ans vE 26 [.lst 9 (xs.map .str)] (.bool (shortsB xs)) := by
  intro K H
  refine wp_call (fn := Tryz.f26) rfl Tryz.func26 rfl rfl rfl rfl ?_ rfl
  ((try simp [*, Tryz.f26]); repeat' (refine ifB_intro (fun _ => ?_) (fun _ => ?_) <;> (try simp [*, Tryz.f26])))
  refine wp_loop_inv (fun n sl h => ∃ done rest, xs = done ++ rest ∧ n = rest.length ∧ done.all (fun s => decide (s.length ≤ 60)) = true ∧ sl 0 = some (.lst 9 (xs.map .str)) ∧ sl 3 = some (.int .i64 done.length) ∧ sl 2 = some (.bool false)) ?_ xs.length _ _ ⟨[], xs, rfl, rfl, by simp, by simp, by simp, by simp⟩
  rintro n sl h ⟨done, rest, hx, hn', hs, h0, h3, h2⟩
  cases rest with
  | nil =>
    simp at hx
    subst hx
    ((try simp [*, h0, h3, h2]); repeat' (refine ifB_intro (fun _ => ?_) (fun _ => ?_) <;> (try simp [*, h0, h3, h2])))
    rw [shortsB, hs]
    simp
    omega
  | cons x rest =>
    have hw : (IntKind.i64.wrap (↑done.length + 1)) = ↑done.length + 1 := wrap_i64 (by omega) (by simp [hx] at hn; omega)
    obtain ⟨hl2, hg⟩ := idx_at hx
    replace hx := Hide.mk hx
    replace hn := Hide.mk hn
    subst hn'
    ((try simp [*, hw, hl2, hg]); repeat' (refine ifB_intro (fun _ => ?_) (fun _ => ?_) <;> (try simp [*, hw, hl2, hg])))
    · rename_i hb
      have hb' : ¬ x.length ≤ 60 := by ((try simp only [beq_iff_eq, beq_eq_false_iff_ne, ne_eq, bne_iff_ne, bne_eq_false_iff_eq, decide_eq_true_eq, decide_eq_false_iff_not, Bool.not_eq_true, Bool.not_eq_false] at *); omega)
      rw [shortsB, hx.get]
      simp [hb']
    · rename_i hb
      have hb' : x.length ≤ 60 := by ((try simp only [beq_iff_eq, beq_eq_false_iff_ne, ne_eq, bne_iff_ne, bne_eq_false_iff_eq, decide_eq_true_eq, decide_eq_false_iff_not, Bool.not_eq_true, Bool.not_eq_false] at *); omega)
      have hd : (done ++ [x]).all (fun s => decide (s.length ≤ 60)) = true := by rw [List.all_append, hs]; simp [hb']
      exact ⟨rest.length, by omega, done ++ [x], rest, by rw [hx.get]; simp, rfl, by simpa [or_imp, forall_and] using hd, by simp⟩
def tailR (k : Nat) : Str := 33 :: digs k
def candR (base : Str) (k : Nat) : Str := base.take (min base.length (40 - (tailR k).length)) ++ tailR k
/-- What makes k the number of the fresh name. -/
structure FreshK (base : Str) (used : List Str) (K : Nat) : Prop where
  pos : 1 ≤ K
  lt : K < 2 ^ 20
  taken : ∀ j, 1 ≤ j → j < K → candR base j ∈ used
  free : candR base K ∉ used
  short : ∀ j, 1 ≤ j → j ≤ K → (digs j).length ≤ 20
  len : base.length < 2 ^ 60

theorem ans_28_bad (base : Str) (used : List Str) (h : nameR base = false) (hb : base.length < 2 ^ 62) : Ans vE 28 [.str base, .lst 9 (used.map .str)] (.str []) := by
  intro K H
  refine wp_call (fn := Tryz.f28) rfl Tryz.func28 rfl rfl rfl rfl ?_ rfl
  have h30 := ans_30 base hb
  ((try simp [*, Tryz.f28, h30, h]); repeat' (refine ifB_intro (fun _ => ?_) (fun _ => ?_) <;> (try simp [*, Tryz.f28, h30, h])))
theorem ans_28_same (base : Str) (used : List Str) (h : nameR base = true) (hb : base.length < 2 ^ 62) (hu : used.length < 2 ^ 62) (hf : base ∉ used) : Ans vE 28 [.str base, .lst 9 (used.map .str)] (.str base) := by
  intro K H
  refine wp_call (fn := Tryz.f28) rfl Tryz.func28 rfl rfl rfl rfl ?_ rfl
  have h30 := ans_30 base hb
  have h84 := ans_84 used base hu
  ((try simp [*, Tryz.f28, h30, h, h84, hf]); repeat' (refine ifB_intro (fun _ => ?_) (fun _ => ?_) <;> (try simp [*, Tryz.f28, h30, h, h84, hf])))
theorem ans_28_new (base : Str) (used : List Str) (h : nameR base = true) (hu : used.length < 2 ^ 62) (hf : base ∈ used) {k : Nat} (hk : FreshK base used k) : Ans vE 28 [.str base, .lst 9 (used.map .str)] (.str (candR base k)) := by
  intro K H
  refine wp_call (fn := Tryz.f28) rfl Tryz.func28 rfl rfl rfl rfl ?_ rfl
  have h30 := ans_30 base (by have := hk.len; omega)
  have h84 := fun s => ans_84 used s hu
  ((try simp [*, Tryz.f28, h30, h, h84, hf]); repeat' (refine ifB_intro (fun _ => ?_) (fun _ => ?_) <;> (try simp [*, Tryz.f28, h30, h, h84, hf])))
  refine wp_loop_inv (fun n sl h => ∃ i, 1 ≤ i ∧ i ≤ k ∧ n = k - i ∧ sl 0 = some (.str base) ∧ sl 1 = some (.lst 9 (used.map .str)) ∧ sl 5 = some (.int .i64 i)) ?_ (k - 1) _ _ ⟨1, Nat.le_refl _, hk.pos, rfl, by simp, by simp, by simp⟩
  rintro n sl h ⟨i, h1, h2, hn, h0, h1', h5⟩
  have h38 := ans_38 i (by have := hk.lt; omega)
  have hs := hk.short i h1 h2
  have hb := hk.len
  obtain ⟨M, hM, hM1, hM2⟩ : ∃ M : Nat, (if (39 : Int) - ↑(digs i).length < ↑base.length then (39 : Int) - ↑(digs i).length else ↑base.length) = M ∧ M ≤ base.length ∧ M = min base.length (40 - (tailR i).length) := by
    refine ⟨min base.length (39 - (digs i).length), ?_, by omega, ?_⟩
    · split <;> omega
    · simp [tailR]
  have hl1 : 1 + (digs i).length ≤ 4611686018427387904 := by omega
  have hwr : IntKind.i64.wrap (40 - (↑(digs i).length + 1)) = 39 - ↑(digs i).length := by rw [wrap_i64 (by omega) (by omega)]; omega
  have hwi : IntKind.i64.wrap (↑i + 1) = ((i + 1 : Nat) : Int) := by have := hk.lt; rw [wrap_i64 (by omega) (by omega)]; omega
  have hl2 : M + ((digs i).length + 1) ≤ 4611686018427387904 := by omega
  have hl3 : M ≤ (↑base.length : Int) := by omega
  have hcand : List.take M base ++ 33 :: digs i = candR base i := by rw [candR, ← hM2]; rfl
  replace hb := Hide.mk hb
  clear hM2
  ((try simp [*, h38, h30, hM, hM1, hl1, hwr, hl2, hl3, hcand, h84, hwi]); repeat' (refine ifB_intro (fun _ => ?_) (fun _ => ?_) <;> (try simp [*, h38, h30, hM, hM1, hl1, hwr, hl2, hl3, hcand, h84, hwi])))
  · rename_i hin
    simp only [decide_eq_true_eq] at hin
    have hne : i ≠ k := fun e => hk.free (e ▸ hin)
    exact ⟨k - (i + 1), by omega, i + 1, by omega, by omega, rfl, by omega⟩
  · rename_i hin
    simp only [decide_eq_false_iff_not] at hin
    by_cases e : i = k
    · rw [e]
    · exact absurd (hk.taken i h1 (by omega)) hin
/-! ### the program's own -/
theorem ans_126 (c : Nat) : Ans vE 126 [.int .u8 c] (.bool (firstR c)) := by
  intro K H
  refine wp_call (fn := Tryz.f126) rfl Tryz.func126 rfl rfl rfl rfl ?_ rfl
  ((try simp [*, Tryz.f126]); repeat' (refine ifB_intro (fun _ => ?_) (fun _ => ?_) <;> (try simp [*, Tryz.f126])))
  all_goals first | (simp [firstR, letterR]; ((try simp only [beq_iff_eq, beq_eq_false_iff_ne, ne_eq, bne_iff_ne, bne_eq_false_iff_eq, decide_eq_true_eq, decide_eq_false_iff_not, Bool.not_eq_true, Bool.not_eq_false] at *); omega)) | (rw [Bool.eq_iff_iff]; simp [firstR, letterR]; ((try simp only [beq_iff_eq, beq_eq_false_iff_ne, ne_eq, bne_iff_ne, bne_eq_false_iff_eq, decide_eq_true_eq, decide_eq_false_iff_not, Bool.not_eq_true, Bool.not_eq_false] at *); omega))

theorem ans_127 (s : Str) : Ans vE 127 [.str s] (.bool (decide (s ∈ reservedR))) := by
  intro K H
  refine wp_call (fn := Tryz.f127) rfl Tryz.func127 rfl rfl rfl rfl ?_ rfl
  ((try simp [*, Tryz.f127]); repeat' (refine ifB_intro (fun _ => ?_) (fun _ => ?_) <;> (try simp [*, Tryz.f127])))
  all_goals simp_all [reservedR]

def allR (r : Str) : Bool := r.all (okR false)
theorem allR_cons (c : Nat) (r : Str) : allR (c :: r) = (okR false c && allR r) := rfl
theorem okF_iff {c : Nat} : okR false c = true ↔ firstR c = true ∨ (48 ≤ c ∧ c ≤ 57) ∨ c = 46 ∨ c = 64 := by
  simp [okR, or_assoc]

theorem ans_85 (s : Str) (hn : s.length < 2 ^ 62) : Ans vE 85 [.str s] (.bool (nameR s)) := by
  intro K H
  refine wp_call (fn := Tryz.f85) rfl Tryz.func85 rfl rfl rfl rfl ?_ rfl
  cases s with
  | nil => ((try simp [*, Tryz.f85, nameR]); repeat' (refine ifB_intro (fun _ => ?_) (fun _ => ?_) <;> (try simp [*, Tryz.f85, nameR])))
  | cons c0 s0 =>
  have hn' : s0.length + 1 < 2 ^ 62 := hn
  ((try simp [*, Tryz.f85, ans_126, ans_127]); repeat' (refine ifB_intro (fun _ => ?_) (fun _ => ?_) <;> (try simp [*, Tryz.f85, ans_126, ans_127])))
  · rename_i h
    have : ¬ s0.length + 1 ≤ 40 := by ((try simp only [beq_iff_eq, beq_eq_false_iff_ne, ne_eq, bne_iff_ne, bne_eq_false_iff_eq, decide_eq_true_eq, decide_eq_false_iff_not, Bool.not_eq_true, Bool.not_eq_false] at *); omega)
    simp [nameR, this]
  · rename_i h
    simp only [decide_eq_true_eq] at h
    simp [nameR, h]
  rotate_left
  · rename_i h
    simp [nameR, oksR, okR, h]
  rename_i hl1 hf1 hr1
  have hle : s0.length + 1 ≤ 40 := by ((try simp only [beq_iff_eq, beq_eq_false_iff_ne, ne_eq, bne_iff_ne, bne_eq_false_iff_eq, decide_eq_true_eq, decide_eq_false_iff_not, Bool.not_eq_true, Bool.not_eq_false] at *); omega)
  have hname : nameR (c0 :: s0) = allR s0 := by
    have ho : ∀ (r : Str) k, oksR (k + 1) r = allR r := by
      intro r
      induction r with
      | nil => intro k; rfl
      | cons c r ih => intro k; simp [oksR, ih, allR_cons]
    simp only [decide_eq_false_iff_not] at hr1
    simp [nameR, hle, hr1, oksR, okR, hf1, ho]
  rw [hname]
  refine wp_loop_inv (fun n sl h => ∃ done rest, c0 :: s0 = done ++ rest ∧ n = rest.length ∧ allR s0 = allR rest ∧ sl 0 = some (.str (c0 :: s0)) ∧ sl 24 = some (.int .i64 done.length) ∧ sl 23 = some (.int .i64 (s0.length + 1)) ∧ sl 2 = some (.bool false)) ?_ (s0.length + 1) _ _ ⟨[], c0 :: s0, rfl, by simp, by simp [allR_cons, okR, hf1], by simp, by simp, by simp, by simp⟩
  rintro n sl h ⟨done, rest, hx, hn2, hs, h0, h24, h23, h2⟩
  clear hname
  cases rest with
  | nil =>
    have hl : done.length = s0.length + 1 := by have := congrArg List.length hx; simpa using this.symm
    replace hx := Hide.mk hx
    have hs' : allR s0 = true := by rw [hs]; rfl
    clear hs
    ((try simp [*, hl]); repeat' (refine ifB_intro (fun _ => ?_) (fun _ => ?_) <;> (try simp [*, hl])))
  | cons x rest =>
    obtain ⟨hl2, hg⟩ := idx_at hx
    have hw : (IntKind.i64.wrap (↑done.length + 1)) = ↑done.length + 1 := wrap_i64 (by omega) (by simp at hl2; omega)
    replace hx := Hide.mk hx
    replace hn := Hide.mk hn
    subst hn2
    have hl3 : (done.length : Int) < s0.length + 1 := by simp at hl2; omega
    generalize c0 :: s0 = S at *
    ((try simp [*, hw, hl2, hg, ans_126]); repeat' (refine ifB_intro (fun _ => ?_) (fun _ => ?_) <;> (try simp [*, hw, hl2, hg, ans_126])))
    all_goals first
      | (have hk : okR false x = true := by
          rw [okF_iff]
          first | (left; assumption) | ((try simp only [beq_iff_eq, beq_eq_false_iff_ne, ne_eq, bne_iff_ne, bne_eq_false_iff_eq, decide_eq_true_eq, decide_eq_false_iff_not, Bool.not_eq_true, Bool.not_eq_false] at *); omega)
         exact ⟨rest.length, by omega, done ++ [x], rest, by rw [hx.get]; simp, rfl, by rw [allR_cons, hk]; rfl, by simp⟩)
      | (have hk : okR false x = false := by
          rw [Bool.eq_false_iff, Ne, okF_iff]
          rintro (hh | hh)
          · simp_all
          · ((try simp only [beq_iff_eq, beq_eq_false_iff_ne, ne_eq, bne_iff_ne, bne_eq_false_iff_eq, decide_eq_true_eq, decide_eq_false_iff_not, Bool.not_eq_true, Bool.not_eq_false] at *); omega)
         rw [allR_cons, hk]
         rfl)

set_option maxRecDepth 100000 in
theorem ans_86 (k : Nat) (hk : k < 100) : Ans vE 86 [.int .i64 k] (.str (digs k)) := by
  have h177 : Ans vE 177 [.int .i64 k] (.str (digs k)) := by
    intro K H
    refine wp_call (fn := Tryz.f177) rfl Tryz.func177 rfl rfl rfl rfl ?_ rfl
    obtain ⟨A, hA⟩ : ∃ A, A = k * 2 := ⟨_, rfl⟩
    obtain ⟨B, hB⟩ : ∃ B, B = k * 2 + 2 := ⟨_, rfl⟩
    obtain ⟨E, hE⟩ : ∃ E, E = k + 1 := ⟨_, rfl⟩
    have h1 : IntKind.i64.wrap (k + 1) = (E : Int) := by rw [wrap_i64 (by omega) (by omega)]; omega
    have h2 : IntKind.i64.wrap (k * 2) = (A : Int) := by rw [wrap_i64 (by omega) (by omega)]; omega
    have h3 : IntKind.i64.wrap ((A : Int) + 2) = (B : Int) := by rw [wrap_i64 (by omega) (by omega)]; omega
    have h4 : A ≤ B ∧ B ≤ 200 := by omega
    by_cases h10 : k < 10
    · have h5 : (k : Int) < 10 := by omega
      have h6 : k ≤ E ∧ E ≤ 36 := by omega
      clear hA hB
      replace hE := Hide.mk hE
      ((try simp [*, Tryz.f177, h1, h5, h6]); repeat' (refine ifB_intro (fun _ => ?_) (fun _ => ?_) <;> (try simp [*, Tryz.f177, h1, h5, h6])))
      rw [hE.get]
      have hd : digs k = [48 + k] := by rw [digs, if_pos h10]
      rw [hd]
      clear h1 h2 h5 h6 hE hd
      revert k
      decide +kernel
    · have h5 : ¬ (k : Int) < 10 := by omega
      replace hA := Hide.mk hA
      replace hB := Hide.mk hB
      ((try simp [*, Tryz.f177, h1, h2, h3, h4, h5]); repeat' (refine ifB_intro (fun _ => ?_) (fun _ => ?_) <;> (try simp [*, Tryz.f177, h1, h2, h3, h4, h5])))
      rw [hA.get, hB.get]
      have hd : digs k = [48 + k / 10, 48 + k % 10] := by rw [digs, if_neg h10, digs, if_pos (by omega)]; rfl
      rw [hd]
      clear h1 h2 h3 h4 h5 hA hB hE hd
      revert k
      decide +kernel
  have h155 : Ans vE 155 [.int .i64 k, .int .i64 10] (.str (digs k)) := by
    intro K H
    refine wp_call (fn := Tryz.f155) rfl Tryz.func155 rfl rfl rfl rfl ?_ rfl
    have hk' : (k : Int) < 100 := by omega
    ((try simp [*, Tryz.f155, h177]); repeat' (refine ifB_intro (fun _ => ?_) (fun _ => ?_) <;> (try simp [*, Tryz.f155, h177])))
  have h128 : Ans vE 128 [.int .i64 k] (.str (digs k)) := by
    intro K H
    refine wp_call (fn := Tryz.f128) rfl Tryz.func128 rfl rfl rfl rfl ?_ rfl
    ((try simp [*, Tryz.f128, h155]); repeat' (refine ifB_intro (fun _ => ?_) (fun _ => ?_) <;> (try simp [*, Tryz.f128, h155])))
  intro K H
  refine wp_call (fn := Tryz.f86) rfl Tryz.func86 rfl rfl rfl rfl ?_ rfl
  ((try simp [*, Tryz.f86, h128]); repeat' (refine ifB_intro (fun _ => ?_) (fun _ => ?_) <;> (try simp [*, Tryz.f86, h128])))
end Go.Proofs.YtabcdhcpilpojaaGreatDoor
end

section
set_option linter.unusedSimpArgs false
set_option linter.unusedVariables false
namespace Go.Proofs.YtabcdhcpilpojaaGreatDoor
open Go Go.Pure
open Go.Virt (Ex Ctx Ty TK)

/-- s is the fresh name for base beside used. -/
def FreshIs (base : Str) (used : List Str) (s : Str) : Prop :=
  (nameR base = false ∧ s = []) ∨ (nameR base = true ∧ base ∉ used ∧ s = base) ∨ (nameR base = true ∧ base ∈ used ∧ ∃ k, FreshK base used k ∧ k < 90 ∧ s = candR base k)

theorem ans_28 {base : Str} {used : List Str} {s : Str} (hs : FreshIs base used s) (hb : base.length < 2 ^ 62) (hu : used.length < 2 ^ 62) : Ans vE 28 [.str base, .lst 9 (used.map .str)] (.str s) := by
  rcases hs with ⟨h1, rfl⟩ | ⟨h1, h2, rfl⟩ | ⟨h1, h2, k, hk, _, rfl⟩
  · exact ans_28_bad base used h1 hb
  · exact ans_28_same s used h1 hb hu h2
  · exact ans_28_new base used h1 hu h2 hk

def setP (es : List Str) : List (PV × PV) := es.map fun s => (.str s, .bool true)
theorem setP_nil : ([] : List (PV × PV)) = setP [] := rfl
theorem setP_find (es : List Str) (x : Str) : mapFindP (setP es) (.str x) = some (if x ∈ es then some (.bool true) else none) := find_set es x
theorem setP_put (es : List Str) (x : Str) : mapPutP (setP es) (.str x) (.bool true) = some (setP (if x ∈ es then es else es ++ [x])) := by
  by_cases h : x ∈ es
  · rw [if_pos h]
    induction es with
    | nil => cases h
    | cons e es ih =>
      by_cases he : x = e
      · subst he; simp [setP, mapPutP, sameKeyP]
      · have h' : x ∈ es := by simpa [he] using h
        have : (x == e) = false := by simpa using he
        have ih := ih h'
        simp only [setP, List.map_cons, mapPutP, sameKeyP, this] at ih ⊢
        rw [ih]; rfl
  · rw [if_neg h]; exact put_set es x h

/-- The name tried in round i. -/
def curR (base : Str) (i : Nat) : Str := if i ≤ 1 then base else candR base (i - 1)

theorem ans_29_bad (base : Str) (used : List Str) (h : nameR base = false) (hb : base.length < 2 ^ 62) : Ans vE 29 [.str base, .lst 9 (used.map .str)] (.str []) := by
  intro K H
  refine wp_call (fn := Tryz.f29) rfl Tryz.func29 rfl rfl rfl rfl ?_ rfl
  have h85 := ans_85 base hb
  ((try simp [*, Tryz.f29, h85, h]); repeat' (refine ifB_intro (fun _ => ?_) (fun _ => ?_) <;> (try simp [*, Tryz.f29, h85, h])))
theorem ans_29_new (base : Str) (used : List Str) (h : nameR base = true) (hb : base.length < 2 ^ 60) (hu : used.length < 2 ^ 62) (k : Nat) (hk : k < 95) (hk1 : 1 ≤ k) (ht : ∀ j, 1 ≤ j → j < k → curR base j ∈ used) (hf : curR base k ∉ used) :
    Ans vE 29 [.str base, .lst 9 (used.map .str)] (.str (curR base k)) := by
  intro K H
  refine wp_call (fn := Tryz.f29) rfl Tryz.func29 rfl rfl rfl rfl ?_ rfl
  have h85 := ans_85 base (by omega)
  ((try simp [*, Tryz.f29, h85, h]); repeat' (refine ifB_intro (fun _ => ?_) (fun _ => ?_) <;> (try simp [*, Tryz.f29, h85, h])))
  generalize PH.stamp _ _ = v0
  rw [setP_nil]
  generalize hI : H.next + 14 = I
  refine wp_loop_inv (fun n sl h => ∃ done rest es, used = done ++ rest ∧ n = rest.length ∧ (∀ y, y ∈ es ↔ y ∈ done) ∧ sl 15 = some (.lst 9 (used.map .str)) ∧ sl 16 = some (.int .i64 used.length) ∧ sl 17 = some (.int .i64 done.length) ∧ sl 0 = some (.str base) ∧ sl 5 = some (.map I v0) ∧ h.get I = some (v0, .map (setP es))) ?_ used.length _ _ ⟨[], used, [], rfl, rfl, by simp, by simp, by simp, by simp, by simp, by simp [hI], by simp [hI]⟩
  rintro n sl h ⟨done, rest, es, hx, hn', he, h15, h16, h17, h0, h5, hm⟩
  cases rest with
  | nil =>
    simp at hx
    subst hx
    clear hu
    ((try simp [*, h15]); repeat' (refine ifB_intro (fun _ => ?_) (fun _ => ?_) <;> (try simp [*, h15])))
    refine wp_loop_inv (fun n sl h => ∃ i, 1 ≤ i ∧ i ≤ k ∧ n = k - i ∧ sl 0 = some (.str base) ∧ sl 5 = some (.map I v0) ∧ sl 8 = some (.str (curR base i)) ∧ sl 9 = some (.int .i64 i) ∧ h.get I = some (v0, .map (setP es))) ?_ (k - 1) _ _ ⟨1, Nat.le_refl _, hk1, rfl, by simp [h0], by simp [h5], by simp [curR], by simp, hm⟩
    clear h0 h5 hm h15 h16 h17 hn'
    rintro n sl h ⟨i, h1, h2, hn, h0, h5, h8, h9, hm⟩
    have hin : (curR base i ∈ es) ↔ i < k := by
      rw [he]
      constructor
      · intro hh
        rcases Nat.lt_or_ge i k with hlt | hge
        · exact hlt
        · exact absurd ((show i = k by omega) ▸ hh) hf
      · exact ht i h1
    replace ht := Hide.mk ht
    replace he := Hide.mk he
    by_cases hik : i < k
    · obtain ⟨M, hM, hM1, hM2⟩ : ∃ M : Nat, (if (39 : Int) - ↑(digs i).length < ↑base.length then (39 : Int) - ↑(digs i).length else ↑base.length) = M ∧ M ≤ base.length ∧ M = min base.length (40 - (tailR i).length) := by
        have hs : (digs i).length ≤ 20 := by rw [digs]; split; simp; rw [digs, if_pos (by omega)]; simp
        refine ⟨min base.length (39 - (digs i).length), ?_, by omega, ?_⟩
        · split <;> omega
        · simp [tailR]
      have hs : (digs i).length ≤ 20 := by rw [digs]; split; simp; rw [digs, if_pos (by omega)]; simp
      have h86 := ans_86 i (by omega)
      have hl1 : 1 + (digs i).length ≤ 4611686018427387904 := by omega
      have hwr : IntKind.i64.wrap (40 - (↑(digs i).length + 1)) = 39 - ↑(digs i).length := by rw [wrap_i64 (by omega) (by omega)]; omega
      have hwi : IntKind.i64.wrap (↑i + 1) = ((i + 1 : Nat) : Int) := by rw [wrap_i64 (by omega) (by omega)]; omega
      have hl2 : M + ((digs i).length + 1) ≤ 4611686018427387904 := by omega
      have hl3 : M ≤ (↑base.length : Int) := by omega
      have hcand : List.take M base ++ 33 :: digs i = candR base i := by rw [candR, ← hM2]; rfl
      have hin' : curR base i ∈ es := hin.2 hik
      clear hM2 hin
      replace hb := Hide.mk hb
      ((try simp [*, h86, hM, hM1, hl1, hwr, hl2, hl3, hcand, hwi, setP_find, hin']); repeat' (refine ifB_intro (fun _ => ?_) (fun _ => ?_) <;> (try simp [*, h86, hM, hM1, hl1, hwr, hl2, hl3, hcand, hwi, setP_find, hin'])))
      exact ⟨k - (i + 1), by omega, i + 1, by omega, by omega, rfl, by simp [curR]; omega, by omega⟩
    · have hik' : i = k := by omega
      subst hik'
      have hin' : curR base i ∉ es := fun hh => hik (hin.1 hh)
      clear hin
      ((try simp [*, setP_find, hin']); repeat' (refine ifB_intro (fun _ => ?_) (fun _ => ?_) <;> (try simp [*, setP_find, hin'])))
  | cons x rest =>
    obtain ⟨hl2, hg⟩ := idx_at hx
    have hw : (IntKind.i64.wrap (↑done.length + 1)) = ↑done.length + 1 := wrap_i64 (by omega) (by omega)
    replace hx := Hide.mk hx
    replace hu := Hide.mk hu
    subst hn'
    replace ht := Hide.mk ht
    replace he := Hide.mk he
    have hI1 : H.next ≤ I := by omega
    ((try simp [*, hw, hl2, hg, setP_find, setP_put]); repeat' (refine ifB_intro (fun _ => ?_) (fun _ => ?_) <;> (try simp [*, hw, hl2, hg, setP_find, setP_put])))
    refine ⟨rest.length, by omega, done ++ [x], rest, by rw [hx.get]; simp, rfl, _, ?_, by simp, rfl⟩
    intro y
    split
    · rename_i hin
      have := he.get y
      simp only [List.mem_append, List.mem_singleton, this]
      constructor
      · exact Or.inl
      · rintro (h | rfl)
        · exact h
        · exact (he.get _).1 hin
    · simp [he.get y]
end Go.Proofs.YtabcdhcpilpojaaGreatDoor
end

section
set_option linter.unusedSimpArgs false
set_option linter.unusedVariables false
namespace Go.Proofs.YtabcdhcpilpojaaGreatDoor
open Go Go.Pure
open Go.Virt (Ex Ctx Ty TK)

theorem digs_dig (n : Nat) : ∀ c ∈ digs n, 48 ≤ c ∧ c ≤ 57 := by
  induction n using Nat.strongRecOn with
  | _ n ih =>
    intro c hc
    rw [digs] at hc
    split at hc
    · simp at hc; omega
    · rw [List.mem_append] at hc
      rcases hc with hc | hc
      · exact ih _ (by omega) c hc
      · simp at hc; omega
def valR (s : Str) : Nat := s.foldl (fun a c => 10 * a + (c - 48)) 0
theorem val_digs (n : Nat) : valR (digs n) = n := by
  induction n using Nat.strongRecOn with
  | _ n ih =>
    rw [digs]
    split
    · simp [valR]
    · rename_i h
      have := ih (n / 10) (by omega)
      unfold valR at this ⊢
      rw [List.foldl_append, this]
      simp
      omega
theorem digs_len (n : Nat) (h : n < 100) : (digs n).length ≤ 2 := by
  rw [digs]; split; simp; rw [digs, if_pos (by omega)]; simp

theorem tail_inj {a b d e : Str} (hd : 33 ∉ d) (he : 33 ∉ e) (h : a ++ 33 :: d = b ++ 33 :: e) : d = e := by
  have key : ∀ (a d : Str), 33 ∉ d → ((a ++ 33 :: d).reverse.takeWhile (· != 33)) = d.reverse := by
    intro a d hd
    rw [List.reverse_append, List.reverse_cons, List.append_assoc, List.takeWhile_append_of_pos]
    · simp
    · intro c hc
      have : c ∈ d := by simpa using hc
      simp
      intro h; subst h; exact hd this
  have h1 := key a d hd
  rw [h, key b e he] at h1
  exact (List.reverse_inj.1 h1).symm
theorem cand_inj {base : Str} {j k : Nat} (h : candR base j = candR base k) : j = k := by
  have hn : ∀ n, 33 ∉ digs n := fun n hh => by have := digs_dig n 33 hh; omega
  have := tail_inj (hn j) (hn k) h
  rw [← val_digs j, this, val_digs]

theorem pigeon {α : Type} [BEq α] [LawfulBEq α] (f : Nat → α) (hf : ∀ i j, f i = f j → i = j) : ∀ (n : Nat) (l : List α), (∀ j, j < n → f j ∈ l) → n ≤ l.length := by
  intro n
  induction n with
  | zero => intro l _; omega
  | succ n ih =>
    intro l hl
    have h1 := hl n (by omega)
    have h2 := ih (l.erase (f n)) fun j hj => (List.mem_erase_of_ne (fun e => by have := hf _ _ e; omega)).2 (hl j (by omega))
    rw [List.length_erase_of_mem h1] at h2
    have : 0 < l.length := List.length_pos_of_mem h1
    omega
theorem least {P : Nat → Prop} (n : Nat) (h : P n) : ∃ k, k ≤ n ∧ P k ∧ ∀ j, j < k → ¬ P j := by
  induction n using Nat.strongRecOn with
  | _ n ih =>
    by_cases hh : ∃ j, j < n ∧ P j
    · obtain ⟨j, hj, hp⟩ := hh
      obtain ⟨k, h1, h2⟩ := ih j hj hp
      exact ⟨k, by omega, h2⟩
    · exact ⟨n, Nat.le_refl _, h, fun j hj hp => hh ⟨j, hj, hp⟩⟩

theorem fresh_exists (base : Str) (used : List Str) (hb : base.length < 2 ^ 60) (hu : used.length ≤ 60) : ∃ s, FreshIs base used s := by
  by_cases h1 : nameR base = true
  · by_cases h2 : base ∈ used
    · have : ∃ j, j ≤ used.length ∧ candR base (j + 1) ∉ used := by
        refine Classical.byContradiction fun hno => ?_
        have := pigeon (fun j => candR base (j + 1)) (fun i j e => by have := cand_inj e; omega) (used.length + 1) used fun j hj => by
          refine Classical.byContradiction fun hh => hno ⟨j, by omega, hh⟩
        omega
      obtain ⟨j, hj, hf⟩ := this
      obtain ⟨k, hk, hf, hl⟩ := least (P := fun j => candR base (j + 1) ∉ used) j hf
      refine ⟨candR base (k + 1), Or.inr (Or.inr ⟨h1, h2, k + 1, ⟨by omega, by omega, fun j hj1 hj2 => ?_, hf, fun j _ hj => ?_, hb⟩, by omega, rfl⟩)⟩
      · have := hl (j - 1) (by omega)
        rw [show j - 1 + 1 = j by omega] at this
        exact Classical.not_not.1 this
      · have := digs_len j (by omega); omega
    · exact ⟨base, Or.inr (Or.inl ⟨h1, h2, rfl⟩)⟩
  · exact ⟨[], Or.inl ⟨by simpa using h1, rfl⟩⟩

theorem allR_append (a b : Str) : allR (a ++ b) = (allR a && allR b) := by simp [allR]
theorem nameR_cons (c : Nat) (r : Str) : nameR (c :: r) = (decide (r.length + 1 ≤ 40) && !decide (c :: r ∈ reservedR) && firstR c && allR r) := by
  have ho : ∀ (r : Str) k, oksR (k + 1) r = allR r := by
    intro r
    induction r with
    | nil => intro k; rfl
    | cons c r ih => intro k; simp [oksR, ih, allR_cons]
  simp [nameR, oksR, okR, ho, Bool.and_assoc]
theorem nameR_len {s : Str} (h : nameR s = true) : s.length ≤ 40 := by
  simp only [nameR, Bool.and_eq_true, decide_eq_true_eq] at h
  exact h.1.1.2
theorem reserved_33 : ∀ w ∈ reservedR, 33 ∉ w := by decide
theorem cand_name {base : Str} {k : Nat} (h : nameR base = true) (hk : k < 100) : nameR (candR base k) = true := by
  cases base with
  | nil => simp [nameR] at h
  | cons c r =>
    rw [nameR_cons] at h
    simp only [Bool.and_eq_true] at h
    obtain ⟨⟨⟨h1, h2⟩, h3⟩, h4⟩ := h
    have hd := digs_len k hk
    have hm : ∃ m, min (c :: r).length (40 - (tailR k).length) = m + 1 ∧ m + 1 + (digs k).length + 1 ≤ 40 := by
      refine ⟨min (c :: r).length (40 - (tailR k).length) - 1, ?_, ?_⟩ <;> simp only [List.length_cons, tailR] <;> omega
    obtain ⟨m, hm, hm2⟩ := hm
    have e : candR (c :: r) k = c :: (r.take m ++ 33 :: digs k) := by rw [candR, hm]; rfl
    rw [e, nameR_cons]
    have hnr : c :: (r.take m ++ 33 :: digs k) ∉ reservedR := fun hh => reserved_33 _ hh (by simp)
    have hdig : allR (digs k) = true := by
      unfold allR
      rw [List.all_eq_true]
      intro x hx
      have := digs_dig k x hx
      rw [okF_iff]
      omega
    have htake : allR (r.take m) = true := by
      unfold allR at h4 ⊢
      rw [List.all_eq_true] at h4 ⊢
      exact fun x hx => h4 x (List.mem_of_mem_take hx)
    have hlen : (r.take m ++ 33 :: digs k).length + 1 ≤ 40 := by
      have := List.length_take_le m r
      simp only [List.length_append, List.length_cons]
      omega
    rw [allR_append, allR_cons, hdig, htake, h3]
    simp only [hnr, hlen, decide_true, decide_false, Bool.not_false, Bool.and_true, Bool.true_and]
    decide

/-- What the law asks of the answer. -/
theorem FreshIs.law {base : Str} {used : List Str} {s : Str} (h : FreshIs base used s) : (s = [] ↔ nameR base = false) ∧ (s ≠ [] → s ∉ used ∧ nameR s = true) := by
  have hn : nameR [] = false := rfl
  rcases h with ⟨h1, rfl⟩ | ⟨h1, h2, rfl⟩ | ⟨h1, h2, k, hk, hk2, rfl⟩
  · exact ⟨by simp [h1], fun h => absurd rfl h⟩
  · refine ⟨⟨fun e => by subst e; exact hn, fun e => by rw [h1] at e; cases e⟩, fun _ => ⟨h2, h1⟩⟩
  · have hne : candR base k ≠ [] := by simp [candR, tailR]
    exact ⟨⟨fun e => absurd e hne, fun e => by rw [h1] at e; cases e⟩, fun _ => ⟨hk.free, cand_name h1 (by omega)⟩⟩

theorem ans_29 {base : Str} {used : List Str} {s : Str} (hs : FreshIs base used s) (hb : base.length < 2 ^ 60) (hu : used.length < 2 ^ 62) : Ans vE 29 [.str base, .lst 9 (used.map .str)] (.str s) := by
  rcases hs with ⟨h1, rfl⟩ | ⟨h1, h2, rfl⟩ | ⟨h1, h2, k, hk, hk2, rfl⟩
  · exact ans_29_bad base used h1 (by omega)
  · exact ans_29_new s used h1 hb hu 1 (by omega) (by omega) (fun j h1 h2 => by omega) (by simpa [curR] using h2)
  · have hc : ∀ j, 1 ≤ j → curR base (j + 1) = candR base j := by
      intro j hj
      unfold curR
      rw [if_neg (by omega)]
      rfl
    rw [← hc k hk.pos]
    refine ans_29_new base used h1 hb hu (k + 1) (by omega) (by omega) (fun j hj1 hj2 => ?_) (by rw [hc k hk.pos]; exact hk.free)
    rcases Nat.eq_or_lt_of_le hj1 with e | e
    · subst e; simpa [curR] using h2
    · have := hc (j - 1) (by omega)
      rw [show j - 1 + 1 = j by omega] at this
      rw [this]
      exact hk.taken _ (by omega) (by omega)
end Go.Proofs.YtabcdhcpilpojaaGreatDoor
end

section
set_option linter.unusedSimpArgs false
set_option linter.unusedVariables false
namespace Go.Proofs.YtabcdhcpilpojaaGreatDoor
open Go Go.Pure
open Go.Virt (Ex Ctx Ty TK)

set_option maxRecDepth 20000 in
theorem law_5 (base : Str) (used : List Str) (n : Int) (hu : used.length ≤ 2 ^ 20) (hb : base.length ≤ 2 ^ 20) : Ans vE 5 [.str base, .lst 9 (used.map .str), .int .i64 n] (.bool true) := by
  intro K H
  refine wp_call (fn := Tryz.f5) rfl Tryz.func5 rfl rfl rfl rfl ?_ rfl
  have h26 := own1 (ans_26 (base :: used) (by simp; omega)) rfl rfl
  have hx1 : 1 + used.length ≤ 4611686018427387904 := by omega
  have hx2 : 1 + used.length = used.length + 1 := by omega
  rw [List.map_cons] at h26
  have hm1 : used.length + 1 ≤ Virt.maxLenV := by unfold Virt.maxLenV; omega
  ((try simp [*, Tryz.f5, ans_19, h26, hx1, hx2]); repeat' (refine ifB_intro (fun _ => ?_) (fun _ => ?_) <;> (try simp [*, Tryz.f5, ans_19, h26, hx1, hx2])))
  rename_i hsh
  clear h26 hx1 hx2 hm1
  have hul : used.length ≤ 11 := by
    simp only [shortsB, Bool.and_eq_true, decide_eq_true_eq, List.length_cons] at hsh
    omega
  clear hsh
  have h27 : ∀ K H, callI vE K 27 [.int .i64 n, .int .i64 12] H = some (.int .i64 (modI n 12), H) := ans_27 n 12 (by decide) (by decide)
  have h27' : ∀ K H, callI vE K 27 [.int .i64 n, .int .i64 13] H = some (.int .i64 (modI n 13), H) := ans_27 n 13 (by decide) (by decide)
  have hm12 := modI_lt n (n := 12) (by decide)
  have hm13 := modI_lt n (n := 13) (by decide)
  generalize modI n 12 = m12 at *
  generalize modI n 13 = m13 at *
  generalize PH.stamp _ _ = v0
  generalize PH.put _ _ _ _ = H1
  refine wp_loop_inv (fun k sl h => ∃ i long, k = 30 + m12 - i ∧ i ≤ 30 + m12 ∧ long.length = i + 1 ∧ sl 7 = some (.str long) ∧ sl 8 = some (.int .i64 i) ∧ sl 0 = some (.str base) ∧ sl 1 = some (.lst 9 (used.map .str)) ∧ sl 2 = some (.int .i64 n) ∧ sl 6 = some (.bool false)) ?_ (30 + m12) _ _ ⟨0, [113], by omega, by omega, rfl, by simp, by simp, by simp, by simp, by simp, by simp⟩
  rintro k sl h ⟨i, long, hk, hi, hl, h7, h8, h0, h1, h2, h6⟩
  have hw1 : IntKind.i64.wrap (30 + m12) = 30 + m12 := wrap_i64 (by omega) (by omega)
  have hw2 : IntKind.i64.wrap (i + 1) = ((i + 1 : Nat) : Int) := by rw [wrap_i64 (by omega) (by omega)]; omega
  by_cases hik : i < 30 + m12
  · have hik' : (i : Int) < 30 + m12 := by omega
    have hll : long.length + 1 ≤ 4611686018427387904 := by omega
    replace hk := Hide.mk hk
    replace hl := Hide.mk hl
    ((try simp [*, h27, hw1, hw2]); repeat' (refine ifB_intro (fun _ => ?_) (fun _ => ?_) <;> (try simp [*, h27, hw1, hw2])))
    have hl' : (long ++ [122]).length = i + 1 + 1 := by have := hl.get; simp; omega
    exact ⟨30 + m12 - (i + 1), by have := hk.get; omega, i + 1, rfl, by omega, _, hl', rfl, by omega⟩
  have hik' : ¬ (i : Int) < 30 + m12 := by omega
  have hlong : long.length ≤ 60 := by omega
  clear hk hl hi hik
  have hm1 : used.length ≤ Virt.maxLenV := by unfold Virt.maxLenV; omega
  have hm2 : used.length + 1 ≤ Virt.maxLenV := by unfold Virt.maxLenV; omega
  have hm3 : 1 ≤ Virt.maxLenV := by unfold Virt.maxLenV; omega
  by_cases hue : used = []
  all_goals (
    ((try simp [*, h27, hw1]); repeat' (refine ifB_intro (fun _ => ?_) (fun _ => ?_) <;> (try simp [*, h27, hw1])))
    refine wp_loop_inv (fun k sl h => ∃ (i : Nat) (ys : List Str) (I ver : Nat), k = m13 - i ∧ i ≤ m13 ∧ ys.length = used.length + 1 + 2 * i ∧ (H.next ≤ I ∧ I < H.next + 50) ∧ sl 9 = some (.own I ver 9 0 (used.length + 1 + 2 * i)) ∧ h.get I = some (ver, .row 9 true (ys.map .str)) ∧ sl 10 = some (.int .i64 i) ∧ sl 7 = some (.str long) ∧ sl 0 = some (.str base) ∧ sl 2 = some (.int .i64 n) ∧ sl 6 = some (.bool false)) ?_ m13 _ _ ?_)
  rotate_left 1
  · exact ⟨0, [long], H.next + 36, h.stamp (H.next + 36), by omega, by omega, by simp [hue], ⟨Nat.le_add_right _ _, by omega⟩, by simp [hue], by simp, by simp, by simp [h7], by simp [h0], by simp [h2], by simp [h6]⟩
  rotate_left 1
  · exact ⟨0, used ++ [long], H.next + 32, h.stamp (H.next + 32) + 1, by omega, by omega, by simp, ⟨Nat.le_add_right _ _, by omega⟩, by simp, by simp; exact List.take_of_length_le (by simp), by simp, by simp [h7], by simp [h0], by simp [h2], by simp [h6]⟩
  all_goals (
    clear h7 h8 h0 h1 h2 h6 hik' hw2 hm1 hm2 hm3 hue
    rintro k sl h ⟨i, ys, I, ver, hk, hi, hl, hI, h9, hg, h10, h7, h0, h2, h6⟩
    have hw2 : IntKind.i64.wrap (i + 1) = ((i + 1 : Nat) : Int) := by rw [wrap_i64 (by omega) (by omega)]; omega
    by_cases hik : i < m13
    · have hik' : (i : Int) < m13 := by omega
      obtain ⟨s1, hs1⟩ := fresh_exists long ys (by omega) (by omega)
      obtain ⟨s2, hs2⟩ := fresh_exists [120] ys (by simp) (by omega)
      have hc1 := own2 (ans_28 hs1 (by omega) (by omega)) rfl rfl rfl
      have hc2 := own2 (ans_28 hs2 (by simp) (by omega)) rfl rfl rfl
      have hm1 : used.length + 1 + 2 * i + 2 ≤ Virt.maxLenV := by unfold Virt.maxLenV; omega
      have hd : (ys.map PV.str).take (used.length + 1 + 2 * i) = ys.map PV.str := List.take_of_length_le (by simp; omega)
      have hd2 : used.length + 1 + 2 * i ≤ ys.length := by omega
      replace hk := Hide.mk hk
      replace hl := Hide.mk hl
      clear hs1 hs2
      ((try simp [*, h27', hw2, hc1, hc2, hl.get]); repeat' (refine ifB_intro (fun _ => ?_) (fun _ => ?_) <;> (try simp [*, h27', hw2, hc1, hc2, hl.get])))
      exact ⟨m13 - (i + 1), by have := hk.get; omega, i + 1, rfl, by omega, ys ++ [s1, s2], by have := hl.get; simp; omega, I, hI, ver + 1, ⟨rfl, rfl, by omega⟩, by simp, by omega⟩
    have hik' : ¬ (i : Int) < m13 := by omega
    have hN : used.length + 1 + 2 * i = ys.length := hl.symm
    rw [hN] at h9
    have hyl : ys.length ≤ 40 := by omega
    clear hk hi hik hl hN
    obtain ⟨hI1, hI2⟩ := hI
    have hIJ : I ≠ H.next + 53 := by omega
    ((try simp [*, h27']); repeat' (refine ifB_intro (fun _ => ?_) (fun _ => ?_) <;> (try simp [*, h27'])))
    clear hik' h27 h27' hw1 hw2
    generalize hJ : H.next + 53 = J at *
    refine wp_loop_inv (fun k sl h => ∃ (j w : Nat), k = 5 - j ∧ j ≤ 5 ∧ sl 11 = some (.own J w 9 0 5) ∧ h.get J = some (w, .row 9 true (([base, long, [120], [97, 110, 100], []] : List Str).map .str)) ∧ h.get I = some (ver, .row 9 true (ys.map .str)) ∧ sl 9 = some (.own I ver 9 0 ys.length) ∧ sl 12 = some (.int .i64 j) ∧ sl 6 = some (.bool false)) ?_ 5 _ _ ⟨0, h.stamp J, by omega, by omega, by simp, by simp, by simp [hIJ, hg], by simp [h9], by simp, by simp [h6]⟩
    clear h9 hg h10 h7 h0 h2 h6
    rintro k sl h ⟨j, w, hk, hj, h11, hgJ, hg, h9, h12, h6⟩
    have hw2 : IntKind.i64.wrap (j + 1) = ((j + 1 : Nat) : Int) := by rw [wrap_i64 (by omega) (by omega)]; omega
    have hJ1 : H.next ≤ J := by omega
    by_cases hjk : j < 5
    · have hjk' : (j : Int) < 5 := by omega
      obtain ⟨e, he⟩ : ∃ e, ([base, long, [120], [97, 110, 100], []] : List Str)[j]? = some e := ⟨_, List.getElem?_eq_getElem (by simpa using hjk)⟩
      have hel : e.length ≤ 2 ^ 20 := by
        have := List.mem_of_getElem? he
        simp at this
        rcases this with rfl | rfl | rfl | rfl | rfl <;> simp <;> omega
      obtain ⟨s, hs⟩ := fresh_exists e ys (by omega) (by omega)
      have hc1 := own2 (ans_29 hs (by omega) (by omega)) rfl rfl rfl
      have hc2 := own2 (ans_28 hs (by omega) (by omega)) rfl rfl rfl
      have hc3 := ans_30 e (by omega)
      obtain ⟨hl1, hl2⟩ := hs.law
      have hem : s.isEmpty = !nameR e := by
        cases hh : nameR e with
        | false => simp [hl1.2 hh]
        | true =>
          cases s with
          | nil => have := hl1.1 rfl; rw [hh] at this; cases this
          | cons => rfl
      clear hs hl1
      have hal : ([base, long, [120], [97, 110, 100], []] : List Str).length = 5 := rfl
      generalize ([base, long, [120], [97, 110, 100], []] : List Str) = alls at *
      obtain ⟨hjl, he2⟩ : ∃ h : j < alls.length, alls[j]'h = e := List.getElem?_eq_some_iff.1 he
      replace hl2 := Hide.mk hl2
      replace he := Hide.mk he
      simp [*, hc1, hc2, hc3, hem]
      refine ifB_intro (fun h => absurd h (by cases nameR e <;> decide)) (fun h => ?_)
      simp [*, hc1, hc2, hc3, hem]
      try refine ifB_intro (fun h => absurd h (by cases nameR e <;> decide)) (fun h => ?_)
      try simp [*, hc1, hc2, hc3, hem]
      refine wp_loop_inv (fun k sl h => ∃ q : Nat, k = ys.length - q ∧ q ≤ ys.length ∧ sl 11 = some (.own J w 9 0 5) ∧ h.get J = some (w, .row 9 true (alls.map .str)) ∧ h.get I = some (ver, .row 9 true (ys.map .str)) ∧ sl 9 = some (.own I ver 9 0 ys.length) ∧ sl 12 = some (.int .i64 j) ∧ sl 6 = some (.bool false) ∧ sl 13 = some (.str s) ∧ sl 14 = some (.int .i64 q)) ?_ ys.length _ _ ⟨0, by omega, by omega, by simp [h11], by simp [hgJ], by simp [hg], by simp [h9], by simp [h12], by simp [h6], by simp, by simp⟩
      clear hgJ hg hc1 hc2 hc3 hem hjl he2
      rintro k2 sl h ⟨q, hk2, hq, h11, hgJ, hg, h9, h12, h6, h13, h14⟩
      have hw3 : IntKind.i64.wrap (q + 1) = ((q + 1 : Nat) : Int) := by rw [wrap_i64 (by omega) (by omega)]; omega
      have hw4 : (if s = [] then True else nameR s = true) := by
        split
        · trivial
        · rename_i hh; exact (hl2.get hh).2
      by_cases hqy : q < ys.length
      · have hqy' : (q : Int) < ys.length := by omega
        replace hk2 := Hide.mk hk2
        have hnot : s ≠ [] → (s == ys[q]) = false := by
          intro hh
          have hm := (hl2.get hh).1
          simp
          intro e
          exact hm (e ▸ List.getElem_mem _)
        have hgoal : ∃ m, m < k2 ∧ ∃ q_1, m = ys.length - q_1 ∧ q_1 ≤ ys.length ∧ (q : Int) + 1 = (q_1 : Int) := ⟨ys.length - (q + 1), by have := hk2.get; omega, q + 1, rfl, by omega, by omega⟩
        by_cases hs0 : s = []
        · subst hs0
          replace hgoal := Hide.mk hgoal
          clear hw4 hnot
          ((try simp [*, hw3]); repeat' (refine ifB_intro (fun _ => ?_) (fun _ => ?_) <;> (try simp [*, hw3])))
          exact hgoal.get
        · have hnot' := hnot hs0
          have hn2 := (hl2.get hs0).2
          have h30 := ans_30 s (by have := nameR_len hn2; omega)
          have hse : s.isEmpty = false := by cases s; exact absurd rfl hs0; rfl
          replace hgoal := Hide.mk hgoal
          clear hw4 hnot
          ((try simp [*, hw3, h30]); repeat' (refine ifB_intro (fun _ => ?_) (fun _ => ?_) <;> (try simp [*, hw3, h30])))
          exact hgoal.get
      · have hqy' : ¬ (q : Int) < ys.length := by omega
        clear hw4
        ((try simp [*, hw2]); repeat' (refine ifB_intro (fun _ => ?_) (fun _ => ?_) <;> (try simp [*, hw2])))
        exact ⟨5 - (j + 1), by omega, j + 1, rfl, by omega, by omega⟩
    · have hjk' : ¬ (j : Int) < 5 := by omega
      ((try simp [*, ans_19]); repeat' (refine ifB_intro (fun _ => ?_) (fun _ => ?_) <;> (try simp [*, ans_19]))))
end Go.Proofs.YtabcdhcpilpojaaGreatDoor
end

section
set_option linter.unusedSimpArgs false
set_option linter.unusedVariables false
namespace Go.Proofs.YtabcdhcpilpojaaGreatDoor
open Go Go.Pure
open Go.Virt (Ex Ctx Ty TK)

set_option maxRecDepth 20000 in
theorem law_5n (base : Str) (used : List Str) (n : Int) (hue : used = []) (hu : used.length ≤ 2 ^ 20) (hb : base.length ≤ 2 ^ 20) : Ans vE 5 [.str base, .nils, .int .i64 n] (.bool true) := by
  intro K H
  refine wp_call (fn := Tryz.f5) rfl Tryz.func5 rfl rfl rfl rfl ?_ rfl
  have h26 := own1 (ans_26 (base :: used) (by simp; omega)) rfl rfl
  have hx1 : 1 + used.length ≤ 4611686018427387904 := by omega
  have hx2 : 1 + used.length = used.length + 1 := by omega
  have hm0 : 1 ≤ Virt.maxLenV := by unfold Virt.maxLenV; omega
  rw [List.map_cons] at h26
  have hm1 : used.length + 1 ≤ Virt.maxLenV := by unfold Virt.maxLenV; omega
  ((try simp [*, Tryz.f5, ans_19, h26, hx1, hx2]); repeat' (refine ifB_intro (fun _ => ?_) (fun _ => ?_) <;> (try simp [*, Tryz.f5, ans_19, h26, hx1, hx2])))
  rename_i hsh
  clear h26 hx1 hx2 hm1
  have hul : used.length ≤ 11 := by simp [hue]
  clear hsh
  have h27 : ∀ K H, callI vE K 27 [.int .i64 n, .int .i64 12] H = some (.int .i64 (modI n 12), H) := ans_27 n 12 (by decide) (by decide)
  have h27' : ∀ K H, callI vE K 27 [.int .i64 n, .int .i64 13] H = some (.int .i64 (modI n 13), H) := ans_27 n 13 (by decide) (by decide)
  have hm12 := modI_lt n (n := 12) (by decide)
  have hm13 := modI_lt n (n := 13) (by decide)
  generalize modI n 12 = m12 at *
  generalize modI n 13 = m13 at *
  generalize PH.stamp _ _ = v0
  generalize PH.put _ _ _ _ = H1
  refine wp_loop_inv (fun k sl h => ∃ i long, k = 30 + m12 - i ∧ i ≤ 30 + m12 ∧ long.length = i + 1 ∧ sl 7 = some (.str long) ∧ sl 8 = some (.int .i64 i) ∧ sl 0 = some (.str base) ∧ sl 1 = some .nils ∧ sl 2 = some (.int .i64 n) ∧ sl 6 = some (.bool false)) ?_ (30 + m12) _ _ ⟨0, [113], by omega, by omega, rfl, by simp, by simp, by simp, by simp, by simp, by simp⟩
  rintro k sl h ⟨i, long, hk, hi, hl, h7, h8, h0, h1, h2, h6⟩
  have hw1 : IntKind.i64.wrap (30 + m12) = 30 + m12 := wrap_i64 (by omega) (by omega)
  have hw2 : IntKind.i64.wrap (i + 1) = ((i + 1 : Nat) : Int) := by rw [wrap_i64 (by omega) (by omega)]; omega
  by_cases hik : i < 30 + m12
  · have hik' : (i : Int) < 30 + m12 := by omega
    have hll : long.length + 1 ≤ 4611686018427387904 := by omega
    replace hk := Hide.mk hk
    replace hl := Hide.mk hl
    ((try simp [*, h27, hw1, hw2]); repeat' (refine ifB_intro (fun _ => ?_) (fun _ => ?_) <;> (try simp [*, h27, hw1, hw2])))
    have hl' : (long ++ [122]).length = i + 1 + 1 := by have := hl.get; simp; omega
    exact ⟨30 + m12 - (i + 1), by have := hk.get; omega, i + 1, rfl, by omega, _, hl', rfl, by omega⟩
  have hik' : ¬ (i : Int) < 30 + m12 := by omega
  have hlong : long.length ≤ 60 := by omega
  clear hk hl hi hik
  have hm1 : used.length ≤ Virt.maxLenV := by unfold Virt.maxLenV; omega
  have hm2 : used.length + 1 ≤ Virt.maxLenV := by unfold Virt.maxLenV; omega
  have hm3 : 1 ≤ Virt.maxLenV := by unfold Virt.maxLenV; omega
  all_goals (
    ((try simp [*, h27, hw1]); repeat' (refine ifB_intro (fun _ => ?_) (fun _ => ?_) <;> (try simp [*, h27, hw1])))
    refine wp_loop_inv (fun k sl h => ∃ (i : Nat) (ys : List Str) (I ver : Nat), k = m13 - i ∧ i ≤ m13 ∧ ys.length = used.length + 1 + 2 * i ∧ (H.next ≤ I ∧ I < H.next + 50) ∧ sl 9 = some (.own I ver 9 0 (used.length + 1 + 2 * i)) ∧ h.get I = some (ver, .row 9 true (ys.map .str)) ∧ sl 10 = some (.int .i64 i) ∧ sl 7 = some (.str long) ∧ sl 0 = some (.str base) ∧ sl 2 = some (.int .i64 n) ∧ sl 6 = some (.bool false)) ?_ m13 _ _ ?_)
  rotate_left 1
  · exact ⟨0, [long], H.next + 36, h.stamp (H.next + 36), by omega, by omega, by simp [hue], ⟨Nat.le_add_right _ _, by omega⟩, by simp [hue], by simp, by simp, by simp [h7], by simp [h0], by simp [h2], by simp [h6]⟩
  all_goals (
    clear h7 h8 h0 h1 h2 h6 hik' hw2 hm1 hm2 hm3 hue
    rintro k sl h ⟨i, ys, I, ver, hk, hi, hl, hI, h9, hg, h10, h7, h0, h2, h6⟩
    have hw2 : IntKind.i64.wrap (i + 1) = ((i + 1 : Nat) : Int) := by rw [wrap_i64 (by omega) (by omega)]; omega
    by_cases hik : i < m13
    · have hik' : (i : Int) < m13 := by omega
      obtain ⟨s1, hs1⟩ := fresh_exists long ys (by omega) (by omega)
      obtain ⟨s2, hs2⟩ := fresh_exists [120] ys (by simp) (by omega)
      have hc1 := own2 (ans_28 hs1 (by omega) (by omega)) rfl rfl rfl
      have hc2 := own2 (ans_28 hs2 (by simp) (by omega)) rfl rfl rfl
      have hm1 : used.length + 1 + 2 * i + 2 ≤ Virt.maxLenV := by unfold Virt.maxLenV; omega
      have hd : (ys.map PV.str).take (used.length + 1 + 2 * i) = ys.map PV.str := List.take_of_length_le (by simp; omega)
      have hd2 : used.length + 1 + 2 * i ≤ ys.length := by omega
      replace hk := Hide.mk hk
      replace hl := Hide.mk hl
      clear hs1 hs2
      ((try simp [*, h27', hw2, hc1, hc2, hl.get]); repeat' (refine ifB_intro (fun _ => ?_) (fun _ => ?_) <;> (try simp [*, h27', hw2, hc1, hc2, hl.get])))
      exact ⟨m13 - (i + 1), by have := hk.get; omega, i + 1, rfl, by omega, ys ++ [s1, s2], by have := hl.get; simp; omega, I, hI, ver + 1, ⟨rfl, rfl, by omega⟩, by simp, by omega⟩
    have hik' : ¬ (i : Int) < m13 := by omega
    have hN : used.length + 1 + 2 * i = ys.length := hl.symm
    rw [hN] at h9
    have hyl : ys.length ≤ 40 := by omega
    clear hk hi hik hl hN
    obtain ⟨hI1, hI2⟩ := hI
    have hIJ : I ≠ H.next + 53 := by omega
    ((try simp [*, h27']); repeat' (refine ifB_intro (fun _ => ?_) (fun _ => ?_) <;> (try simp [*, h27'])))
    clear hik' h27 h27' hw1 hw2
    generalize hJ : H.next + 53 = J at *
    refine wp_loop_inv (fun k sl h => ∃ (j w : Nat), k = 5 - j ∧ j ≤ 5 ∧ sl 11 = some (.own J w 9 0 5) ∧ h.get J = some (w, .row 9 true (([base, long, [120], [97, 110, 100], []] : List Str).map .str)) ∧ h.get I = some (ver, .row 9 true (ys.map .str)) ∧ sl 9 = some (.own I ver 9 0 ys.length) ∧ sl 12 = some (.int .i64 j) ∧ sl 6 = some (.bool false)) ?_ 5 _ _ ⟨0, h.stamp J, by omega, by omega, by simp, by simp, by simp [hIJ, hg], by simp [h9], by simp, by simp [h6]⟩
    clear h9 hg h10 h7 h0 h2 h6
    rintro k sl h ⟨j, w, hk, hj, h11, hgJ, hg, h9, h12, h6⟩
    have hw2 : IntKind.i64.wrap (j + 1) = ((j + 1 : Nat) : Int) := by rw [wrap_i64 (by omega) (by omega)]; omega
    have hJ1 : H.next ≤ J := by omega
    by_cases hjk : j < 5
    · have hjk' : (j : Int) < 5 := by omega
      obtain ⟨e, he⟩ : ∃ e, ([base, long, [120], [97, 110, 100], []] : List Str)[j]? = some e := ⟨_, List.getElem?_eq_getElem (by simpa using hjk)⟩
      have hel : e.length ≤ 2 ^ 20 := by
        have := List.mem_of_getElem? he
        simp at this
        rcases this with rfl | rfl | rfl | rfl | rfl <;> simp <;> omega
      obtain ⟨s, hs⟩ := fresh_exists e ys (by omega) (by omega)
      have hc1 := own2 (ans_29 hs (by omega) (by omega)) rfl rfl rfl
      have hc2 := own2 (ans_28 hs (by omega) (by omega)) rfl rfl rfl
      have hc3 := ans_30 e (by omega)
      obtain ⟨hl1, hl2⟩ := hs.law
      have hem : s.isEmpty = !nameR e := by
        cases hh : nameR e with
        | false => simp [hl1.2 hh]
        | true =>
          cases s with
          | nil => have := hl1.1 rfl; rw [hh] at this; cases this
          | cons => rfl
      clear hs hl1
      have hal : ([base, long, [120], [97, 110, 100], []] : List Str).length = 5 := rfl
      generalize ([base, long, [120], [97, 110, 100], []] : List Str) = alls at *
      obtain ⟨hjl, he2⟩ : ∃ h : j < alls.length, alls[j]'h = e := List.getElem?_eq_some_iff.1 he
      replace hl2 := Hide.mk hl2
      replace he := Hide.mk he
      simp [*, hc1, hc2, hc3, hem]
      refine ifB_intro (fun h => absurd h (by cases nameR e <;> decide)) (fun h => ?_)
      simp [*, hc1, hc2, hc3, hem]
      try refine ifB_intro (fun h => absurd h (by cases nameR e <;> decide)) (fun h => ?_)
      try simp [*, hc1, hc2, hc3, hem]
      refine wp_loop_inv (fun k sl h => ∃ q : Nat, k = ys.length - q ∧ q ≤ ys.length ∧ sl 11 = some (.own J w 9 0 5) ∧ h.get J = some (w, .row 9 true (alls.map .str)) ∧ h.get I = some (ver, .row 9 true (ys.map .str)) ∧ sl 9 = some (.own I ver 9 0 ys.length) ∧ sl 12 = some (.int .i64 j) ∧ sl 6 = some (.bool false) ∧ sl 13 = some (.str s) ∧ sl 14 = some (.int .i64 q)) ?_ ys.length _ _ ⟨0, by omega, by omega, by simp [h11], by simp [hgJ], by simp [hg], by simp [h9], by simp [h12], by simp [h6], by simp, by simp⟩
      clear hgJ hg hc1 hc2 hc3 hem hjl he2
      rintro k2 sl h ⟨q, hk2, hq, h11, hgJ, hg, h9, h12, h6, h13, h14⟩
      have hw3 : IntKind.i64.wrap (q + 1) = ((q + 1 : Nat) : Int) := by rw [wrap_i64 (by omega) (by omega)]; omega
      have hw4 : (if s = [] then True else nameR s = true) := by
        split
        · trivial
        · rename_i hh; exact (hl2.get hh).2
      by_cases hqy : q < ys.length
      · have hqy' : (q : Int) < ys.length := by omega
        replace hk2 := Hide.mk hk2
        have hnot : s ≠ [] → (s == ys[q]) = false := by
          intro hh
          have hm := (hl2.get hh).1
          simp
          intro e
          exact hm (e ▸ List.getElem_mem _)
        have hgoal : ∃ m, m < k2 ∧ ∃ q_1, m = ys.length - q_1 ∧ q_1 ≤ ys.length ∧ (q : Int) + 1 = (q_1 : Int) := ⟨ys.length - (q + 1), by have := hk2.get; omega, q + 1, rfl, by omega, by omega⟩
        by_cases hs0 : s = []
        · subst hs0
          replace hgoal := Hide.mk hgoal
          clear hw4 hnot
          ((try simp [*, hw3]); repeat' (refine ifB_intro (fun _ => ?_) (fun _ => ?_) <;> (try simp [*, hw3])))
          exact hgoal.get
        · have hnot' := hnot hs0
          have hn2 := (hl2.get hs0).2
          have h30 := ans_30 s (by have := nameR_len hn2; omega)
          have hse : s.isEmpty = false := by cases s; exact absurd rfl hs0; rfl
          replace hgoal := Hide.mk hgoal
          clear hw4 hnot
          ((try simp [*, hw3, h30]); repeat' (refine ifB_intro (fun _ => ?_) (fun _ => ?_) <;> (try simp [*, hw3, h30])))
          exact hgoal.get
      · have hqy' : ¬ (q : Int) < ys.length := by omega
        clear hw4
        ((try simp [*, hw2]); repeat' (refine ifB_intro (fun _ => ?_) (fun _ => ?_) <;> (try simp [*, hw2])))
        exact ⟨5 - (j + 1), by omega, j + 1, rfl, by omega, by omega⟩
    · have hjk' : ¬ (j : Int) < 5 := by omega
      ((try simp [*, ans_19]); repeat' (refine ifB_intro (fun _ => ?_) (fun _ => ?_) <;> (try simp [*, ans_19]))))
end Go.Proofs.YtabcdhcpilpojaaGreatDoor
end
