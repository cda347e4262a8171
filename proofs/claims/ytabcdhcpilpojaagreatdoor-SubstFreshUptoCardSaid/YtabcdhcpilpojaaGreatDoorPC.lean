/- Regions whose order is drawn, in a plain run: what is kept on the way. -/
import Derived.Test.YtabcdhcpilpojaaGreatDoorPB
import Derived.Test.YtabcdhcpilpojaaGreatDoorVB
section
set_option linter.unusedVariables false
set_option linter.unusedSimpArgs false
namespace Go.Pure
open Go Go.Virt

/-- Frozen rows with the operation that froze them. -/
abbrev Ent := Nat → Option (SE × Option Nat)
def zr (E : Ent) (L : Nat → Bool) : Sig := fun vid => match E vid with
  | some (s, none) => some s
  | some (s, some j) => if L j then some s else none
  | none => none
theorem zr_some {E : Ent} {L : Nat → Bool} {vid : Nat} {s : SE} : zr E L vid = some s ↔ ∃ ow, E vid = some (s, ow) ∧ ∀ j, ow = some j → L j = true := by
  unfold zr
  constructor
  · intro h
    split at h
    · rename_i s' he; cases h; exact ⟨none, he, fun j e => by cases e⟩
    · rename_i s' j he
      split at h
      · rename_i hl; cases h; exact ⟨some j, he, fun j' e => by cases e; exact hl⟩
      · cases h
    · cases h
  · rintro ⟨ow, h1, h2⟩
    rw [h1]
    cases ow with
    | none => rfl
    | some j => simp [h2 j rfl]
theorem zr_le {E E' : Ent} {L L' : Nat → Bool} (he : ∀ vid x, E vid = some x → E' vid = some x) (hl : ∀ j, L j = true → L' j = true) : Sig.le (zr E L) (zr E' L') := fun vid s hs => by
  obtain ⟨ow, h1, h2⟩ := zr_some.1 hs
  exact zr_some.2 ⟨ow, he _ _ h1, fun j e => hl j (h2 j e)⟩
/-- Only those entries matter that are there. -/
theorem zr_le' {E E' : Ent} {L L' : Nat → Bool} (he : ∀ vid x, E vid = some x → E' vid = some x) (hl : ∀ vid s j, E vid = some (s, some j) → L j = true → L' j = true) : Sig.le (zr E L) (zr E' L') := fun vid s hs => by
  obtain ⟨ow, h1, h2⟩ := zr_some.1 hs
  refine zr_some.2 ⟨ow, he _ _ h1, fun j e => ?_⟩
  subst e
  exact hl vid s j h1 (h2 j rfl)

def mkB (masks : Array Nat) (c j : Nat) : Bool := (masks.getD c 0).testBit j
def mkpB (masks : Array Nat) (c j : Nat) : Bool := mkB masks c j || Nat.beq j c

theorem drawOk_spec {ops : Array Oper} (h : drawOk ops = true) : slotsOk ops.toList (Region.before ops) = true ∧ (∀ i j, i < ops.size → mkB (Region.before ops) i j = true → j < i) ∧
    ∀ i j k, i < ops.size → mkB (Region.before ops) i j = true → mkB (Region.before ops) j k = true → mkB (Region.before ops) i k = true := by
  unfold drawOk at h
  simp only [Bool.and_eq_true] at h
  obtain ⟨h1, h2⟩ := h
  have hlt : ∀ i j, i < ops.size → mkB (Region.before ops) i j = true → j < i := by
    intro i j hi hm
    have h3 := List.all_eq_true.1 h2 i (List.mem_range.2 hi)
    simp only [Bool.and_eq_true] at h3
    have h4 : (Region.before ops).getD i 0 < 2 ^ i := by
      have := h3.1
      rw [Nat.blt_eq] at this
      exact this
    rcases Nat.lt_or_ge j i with h5 | h5
    · exact h5
    · exfalso
      have := Nat.testBit_lt_two_pow (Nat.lt_of_lt_of_le h4 (Nat.pow_le_pow_right (by omega) h5))
      unfold mkB at hm
      rw [this] at hm
      cases hm
  refine ⟨h1, hlt, fun i j k hi hm hk => ?_⟩
  have hj := hlt i j hi hm
  have h3 := List.all_eq_true.1 h2 i (List.mem_range.2 hi)
  simp only [Bool.and_eq_true] at h3
  have h4 := List.all_eq_true.1 h3.2 j (List.mem_range.2 hj)
  rw [Bool.or_eq_true, Bool.not_eq_true'] at h4
  rcases h4 with h4 | h4
  · unfold mkB at hm; rw [hm] at h4; cases h4
  · rw [Nat.beq_eq] at h4
    unfold mkB at hk ⊢
    rw [← h4, Nat.testBit_or, hk, Bool.true_or]

/-- From the beginning of the region to here. -/
structure SX (K : Loc) (ρ0 : Nat → Nat) (h0 : PH) (vh0 : VH) (ρ : Nat → Nat) (h : PH) (S : VH) : Prop where
  ext : Ext ρ0 (vfOf h0) ρ (vfOf h)
  next : h0.next ≤ h.next
  wr : S.wr ≤ vh0.wr
  keep : ∀ i, can K i = false → h.get i = h0.get i
  same : ∀ i ver o, i < K.lo → h0.get i = some (ver, o) → h.get i = some (ver, o) ∨ (∃ g own xs, o = .row g own xs ∧ h.get i = some (ver, .row g false xs)) ∨ S.wr ≤ ρ0 i
  plc : ∀ i x, h.get i = some x → ((∃ y, h0.get i = some y) ∧ ρ i = ρ0 i) ∨ vh0.next ≤ ρ i
  vkeep : ∀ i x, h0.get i = some x → can K i = false → S.get (ρ0 i) = vh0.get (ρ0 i)
  vnone : ∀ q, q < vh0.next → vh0.get q = none → (∀ i x, h0.get i = some x → ρ0 i ≠ q) → S.get q = none

section
variable {C : Ctx} {K : Loc} {ρ0 ρ ρ' : Nat → Nat} {h0 h h' : PH} {vh0 S S' V vh' : VH} {Z Z' : Sig} {M i p ver : Nat} {o : PO}

theorem SX.step {hid : Nat → Prop} (x : SX K ρ0 h0 vh0 ρ h S) (H0 : ∀ i y, h0.get i = some y → ρ0 i < vh0.next) (hhid : ∀ q, hid q → vh0.next ≤ q) (hSM : vh0.next ≤ S.next) (st : St C K ρ Z h V ρ' Z' h' vh') (hVn : V.next = S.next) (hV : ∀ q, ¬ hid q → V.get q = S.get q)
    (hS : ∀ q, ¬ hid q → S'.get q = vh'.get q) (hw1 : S'.wr ≤ S.wr) (hw2 : ∀ q, q < vh0.next → vh'.wr ≤ q → S'.wr ≤ q) : SX K ρ0 h0 vh0 ρ' h' S' := by
  have hn : ∀ q, q < vh0.next → ¬ hid q := fun q hq hh => by have := hhid q hh; omega
  refine ⟨x.ext.trans st.ext, Nat.le_trans x.next st.next, Nat.le_trans hw1 x.wr, fun i hi => (st.keep i hi).trans (x.keep i hi), ?_, ?_, ?_, ?_⟩
  · intro i ver o hlo ho
    have hrho : ∀ o1, h.get i = some (ver, o1) → ρ i = ρ0 i := fun o1 h1 => by
      obtain ⟨c', h2, _, h3⟩ := x.ext i ver (vfOf_some.2 ⟨_, ho⟩)
      rw [vfOf_some.2 ⟨_, h1⟩] at h2
      cases h2
      exact h3 rfl
    have hlt := H0 i _ ho
    rcases x.same i ver o hlo ho with h1 | ⟨g, own, xs, rfl, h1⟩ | h1
    · rcases st.same i ver o hlo h1 with h2 | h2 | h2
      · exact .inl h2
      · exact .inr (.inl h2)
      · rw [hrho _ h1] at h2; exact .inr (.inr (hw2 _ hlt h2))
    · rcases st.same i ver _ hlo h1 with h2 | ⟨g2, own2, xs2, e, h2⟩ | h2
      · exact .inr (.inl ⟨g, own, xs, rfl, h2⟩)
      · cases e; exact .inr (.inl ⟨g, own, xs, rfl, h2⟩)
      · rw [hrho _ h1] at h2; exact .inr (.inr (hw2 _ hlt h2))
    · exact .inr (.inr (Nat.le_trans hw1 h1))
  · intro i y hy
    rcases st.plc i y hy with ⟨⟨z, h1⟩, h2⟩ | h1
    · rcases x.plc i z h1 with ⟨h3, h4⟩ | h3
      · exact .inl ⟨h3, h2.trans h4⟩
      · exact .inr (by rw [h2]; exact h3)
    · exact .inr (Nat.le_trans hSM (by rw [← hVn]; exact h1))
  · intro i y hy hc
    have hlt := H0 i _ hy
    have h1 := x.keep i hc
    have hr : ρ i = ρ0 i := by
      obtain ⟨ver, o⟩ := y
      obtain ⟨c', h2, _, h3⟩ := x.ext i ver (vfOf_some.2 ⟨_, hy⟩)
      rw [vfOf_some.2 ⟨o, by rw [h1]; exact hy⟩] at h2
      cases h2
      exact h3 rfl
    have h2 := st.vkeep i _ (h1.trans hy) hc
    rw [hr] at h2
    rw [hS _ (hn _ hlt), h2, hV _ (hn _ hlt)]
    exact x.vkeep i _ hy hc
  · intro q hq hno hi
    rw [hS _ (hn _ hq)]
    refine st.vnone q (by rw [hVn]; omega) (by rw [hV _ (hn _ hq)]; exact x.vnone q hq hno hi) fun i y hy e => ?_
    rcases x.plc i y hy with ⟨⟨z, hz⟩, h2⟩ | h2
    · exact hi i z hz (h2.symm.trans e)
    · omega

/-- A new object of the region. -/
theorem SX.make (x : SX K ρ0 h0 vh0 ρ h S) (hx : Ext ρ (vfOf h) (fun j => if j = i then p else ρ j) (vfOf (h.put i ver o))) (hc : can K i = true) (hlo : K.lo ≤ i) (hp : vh0.next ≤ p) (H0 : ∀ i y, h0.get i = some y → ρ0 i < vh0.next) {vo : VO} : SX K ρ0 h0 vh0 (fun j => if j = i then p else ρ j) (h.put i ver o) (S.put p (some vo)) where
  ext := x.ext.trans hx
  next := x.next
  wr := x.wr
  keep := fun j hj => by
    have : j ≠ i := fun e => by subst e; rw [hc] at hj; cases hj
    simp only [PH.put, this, if_false]
    exact x.keep j hj
  same := fun j w ob hl ho => by
    have : j ≠ i := fun e => by subst e; omega
    simp only [PH.put, this, if_false]
    exact x.same j w ob hl ho
  plc := fun j y hy => by
    by_cases e : j = i
    · subst e; exact .inr (by simp; exact hp)
    · simp only [PH.put, e, if_false] at hy ⊢
      exact x.plc j y hy
  vkeep := fun j y hy hcj => by
    have := H0 j y hy
    simp only [VH.put, nbeq (show ρ0 j ≠ p by omega), cond_false]
    exact x.vkeep j y hy hcj
  vnone := fun q hq hn hi => by
    simp only [VH.put, nbeq (show q ≠ p by omega), cond_false]
    exact x.vnone q hq hn hi
theorem SX.lit (x : SX K ρ0 h0 vh0 ρ h S) (hp : vh0.next ≤ p) (H0 : ∀ i y, h0.get i = some y → ρ0 i < vh0.next) {vo : VO} : SX K ρ0 h0 vh0 ρ h (S.put p (some vo)) where
  ext := x.ext
  next := x.next
  wr := x.wr
  keep := x.keep
  same := x.same
  plc := x.plc
  vkeep := fun j y hy hcj => by
    have := H0 j y hy
    simp only [VH.put, nbeq (show ρ0 j ≠ p by omega), cond_false]
    exact x.vkeep j y hy hcj
  vnone := fun q hq hn hi => by
    simp only [VH.put, nbeq (show q ≠ p by omega), cond_false]
    exact x.vnone q hq hn hi
end

theorem pick_get (sl : SL) : ∀ (ds : List Nat) (d : Nat) (v : Value), d ∈ ds → slGet sl d = some v → slGet (pick sl ds) d = some v
  | [], d, v, h, _ => by simp at h
  | e :: ds, d, v, h, hv => by
    simp only [pick]
    by_cases he : d = e
    · subst he
      rw [hv]
      simp [slGet]
    · have hm : d ∈ ds := by simpa [he] using h
      have := pick_get sl ds d v hm hv
      split
      · simp only [slGet, nbeq (Ne.symm he), cond_false]
        exact this
      · exact this

theorem free_notmake {C : Ctx} {psl : PSL} {o : Oper} {x : PV} (h : freeP C psl o = some x) (vsl : SL) : makeV C vsl o = none := by
  cases ho : o.op with
  | alloc t => simp [freeP, ho] at h
  | box t y => simp [freeP, ho] at h
  | buildSlice t l ps => simp [freeP, ho] at h
  | makeSlice t l c => simp [freeP, ho] at h
  | makeMap t r => simp [freeP, ho] at h
  | _ => simp [makeV, ho]
theorem state_notmake {C : Ctx} {pcf : CF} {pyf : YF} {all : List Oper} {K : Loc} {psl : PSL} {h : PH} {o : Oper} {r : PV × PH} (he : stateP C pcf pyf all K psl h o = some r) (vsl : SL) : makeV C vsl o = none := by
  cases ho : o.op with
  | alloc t => simp [stateP, ho] at he
  | box t y => simp [stateP, ho] at he
  | buildSlice t l ps => simp [stateP, ho] at he
  | makeSlice t l c => simp [stateP, ho] at he
  | makeMap t r => simp [stateP, ho] at he
  | _ => simp [makeV, ho]

/-- Values that the virtual run can compare. -/
theorem same_refl {C : Ctx} {ρ : Nat → Nat} {vf : Nat → Option Nat} {Z : Sig} : ∀ (n : Nat) {x : PV} {v : Value}, sameP n x = true → R C ρ vf Z x v → sameV n v v = true := by
  have hD : ∀ (n : Nat) {x : PV} {v : Value}, sameP n x = true → RD C Z x v → sameV n v v = true := by
    intro n
    induction n with
    | zero =>
      intro x v hs hr
      cases hr with
      | iface => simp [sameP] at hs
      | agg => simp [sameP] at hs
      | _ => simp [sameV]
    | succ n ih =>
      have hl : ∀ {cs : List PV} {cs' : List Value}, cs.all (sameP n) = true → RDs C Z cs cs' → sameV.sames n cs' cs' = true := by
        intro cs
        induction cs with
        | nil => intro cs' _ h; cases h; rfl
        | cons c cs ih2 =>
          intro cs' ha h
          simp only [List.all_cons, Bool.and_eq_true] at ha
          cases h with | cons h r => simp [sameV.sames, ih ha.1 h, ih2 ha.2 r]
      intro x v hs hr
      cases hr with
      | iface t y w h => simp only [sameV, beq_self_eq_true, Bool.true_and]; exact ih (by simpa only [sameP] using hs) h
      | agg cs cs' h => simp only [sameV]; exact hl (by simpa only [sameP] using hs) h
      | _ => simp [sameV]
  intro n
  induction n with
  | zero =>
    intro x v hs hr
    cases hr with
    | d h => exact hD 0 hs h
    | iface => simp [sameP] at hs
    | agg => simp [sameP] at hs
    | tuple => simp [sameP] at hs
    | fn => simp [sameP] at hs
    | yield => simp [sameP] at hs
    | _ => simp [sameV]
  | succ n ih =>
    have hl : ∀ {cs : List PV} {cs' : List Value}, cs.all (sameP n) = true → Rs C ρ vf Z cs cs' → sameV.sames n cs' cs' = true := by
      intro cs
      induction cs with
      | nil => intro cs' _ h; cases h; rfl
      | cons c cs ih2 =>
        intro cs' ha h
        simp only [List.all_cons, Bool.and_eq_true] at ha
        cases h with | cons h r => simp [sameV.sames, ih ha.1 h, ih2 ha.2 r]
    intro x v hs hr
    cases hr with
    | d h => exact hD (n + 1) hs h
    | iface t y w h => simp only [sameV, beq_self_eq_true, Bool.true_and]; exact ih (by simpa only [sameP] using hs) h
    | agg cs cs' h => simp only [sameV]; exact hl (by simpa only [sameP] using hs) h
    | tuple cs cs' h => simp only [sameV]; exact hl (by simpa only [sameP] using hs) h
    | fn f a c a' c' h1 h2 =>
      simp only [sameP, Bool.and_eq_true] at hs
      simp only [sameV, beq_self_eq_true, Bool.true_and, Bool.and_eq_true]
      exact ⟨hl hs.1 h1, hl hs.2 h2⟩
    | yield => simp [sameV, sameV.sames]
    | _ => simp [sameV]
end Go.Pure
end

section
set_option linter.unusedVariables false
set_option linter.unusedSimpArgs false
namespace Go.Pure
open Go Go.Virt

def sgP (st : DSt) (k : Nat) : Option VH := st.hs.reverse[k]?
def rcP (st : DSt) (c : Nat) : Option Rec := st.recs.reverse[c]?

section
variable (C : Ctx) (cf yf : Nat → List Value → VH → Option (Value × VH)) (K : Loc) (n : Nat) (ops : Array Oper) (B M : Nat) (ρ0 : Nat → Nat) (Z0 : Sig) (h0 : PH) (vh0 : VH)

def SlotOk (i : Nat) (sl : PSL) (vsl : SL) (E : Ent) (ρ : Nat → Nat) (h : PH) : Prop :=
  ∀ t x, sl t = some x → ∃ v L, slGet vsl t = some v ∧ R C ρ (vfOf h) (zr E L) x v ∧
    ((∃ j o, j < i ∧ ops.toList[j]? = some o ∧ o.dst = some t ∧ L = mkpB (Region.before ops) j) ∨ (L = (fun _ => false) ∧ ∀ j o, j < i → ops.toList[j]? = some o → o.dst ≠ some t))

def FreeR (c : Nat) (q : Rec) (E : Ent) (made : Nat) : Prop :=
  ∃ ZF : Sig, (∀ vid s', ZF vid = some s' → ∃ ow, E vid = some (s', ow) ∧ ∀ j, ow = some j → mkB (Region.before ops) c j = true) ∧
    (∀ j, mkB (Region.before ops) c j = true → made.testBit j = true → q.vis.testBit j = true) ∧ ∀ vh', SigIn ZF vh' → opV C cf yf q.pk vh' q.o = some (q.v, vh')

structure DI (i : Nat) (s : PD) (st : DSt) (E : Ent) (LH : Nat → Bool) (ka : Nat → Nat) (ρ : Nat → Nat) (S : VH) (rest : List VH) : Prop where
  hs : st.hs = S :: rest
  hlen : rest.length = st.k
  rlen : st.recs.length = i
  sm : ∀ k SS, sgP st k = some SS → M ≤ SS.next
  hp : HP C ρ (zr E LH) S s.h
  e0 : ∀ vid s', Z0 vid = some s' → E vid = some (s', none)
  eN : ∀ vid s', E vid = some (s', none) → vid < B
  eO : ∀ vid s' j, E vid = some (s', some j) → (vid = B + j ∧ st.made.testBit j = true ∧ ka j = 0 ∧ j ∉ s.made) ∨ ((vid < B ∨ M ≤ vid ∨ ∃ c ∈ s.made, vid = B + c ∧ mkB (Region.before ops) j c = true) ∧ (j, true) ∈ s.st)
  slot : SlotOk C ops i s.sl st.sl E ρ s.h
  lh : ∀ j, LH j = true → ∃ c, ((c, true) ∈ s.st ∨ c ∈ s.made) ∧ mkpB (Region.before ops) c j = true
  lhF : ∀ j, (j, true) ∈ s.st → LH j = true
  md : ∀ c ∈ s.made, c < i ∧ st.made.testBit c = true
  pl : ∀ id x, s.h.get id = some x → B ≤ ρ id → ρ id < M → ∃ c ∈ s.made, ρ id = B + c
  mb : ∀ c, st.made.testBit c = true → c < i
  ml : ∀ c, st.made.testBit c = true → c ∈ s.made ∨ ∃ y, E (B + c) = some y
  no : ∀ c k SS, st.made.testBit c = false → B + c < M → sgP st k = some SS → SS.get (B + c) = none
  sti : ∀ c w, (c, w) ∈ s.st → c < i
  sg : ∀ k SS vid s' ow, sgP st k = some SS → E vid = some (s', ow) → (∀ j, ow = some j → ka j ≤ k) → SS.get vid = some (.row s'.cells s'.e s'.own)
  kaT : ∀ j, (j, true) ∈ s.st → ∃ q, rcP st j = some q ∧ (q.kind = 2 ∧ ka j = q.k ∨ q.kind = 3 ∧ ka j = q.k + 1)
  ord : ∀ c w c' w', (c, w) ∈ s.st → (c', w') ∈ s.st → c' < c → (w = true ∨ w' = true) → mkB (Region.before ops) c c' = true
  rk : ∀ c q, rcP st c = some q → q.k ≤ st.k ∧ (q.kind = 3 → q.k < st.k)
  rm : ∀ c c' q q', c < c' → rcP st c = some q → rcP st c' = some q' → q.k ≤ q'.k ∧ (q.kind = 3 → q.k < q'.k)
  rw : ∀ k, k < st.k → ∃ c q, rcP st c = some q ∧ q.kind = 3 ∧ q.k = k
  rc : ∀ c q, rcP st c = some q → (q.kind = 0 ∨ q.kind = 1) ∨ (q.kind = 2 ∧ sameV 3 q.v q.v = true ∧ FreeR C cf yf ops c q E st.made) ∨ ∃ w, (c, w) ∈ s.st ∧ (q.kind = 2 ∨ q.kind = 3 ∧ w = true)
  sx : SX K ρ0 h0 vh0 ρ s.h S
end

section
variable {C : Ctx} {cf yf : Nat → List Value → VH → Option (Value × VH)} {K : Loc} {n : Nat} {ops : Array Oper} {B M : Nat} {ρ0 : Nat → Nat} {Z0 : Sig} {h0 : PH} {vh0 : VH}
  {i : Nat} {s : PD} {st : DSt} {E E' : Ent} {LH : Nat → Bool} {ka : Nat → Nat} {ρ ρ' : Nat → Nat} {h h' : PH} {S : VH} {rest : List VH} {o : Oper} {x : PV} {v : Value} {sl : PSL} {vsl : SL}

theorem SlotOk.push (so : SlotOk C ops i sl vsl E ρ h) (ho : ops.toList[i]? = some o) (hr : R C ρ' (vfOf h') (zr E' (mkpB (Region.before ops) i)) x v) (he : Ext ρ (vfOf h) ρ' (vfOf h')) (hE : ∀ vid y, E vid = some y → E' vid = some y) :
    SlotOk C ops (i + 1) (putP sl o.dst x) (putV vsl o.dst v) E' ρ' h' := by
  have old : ∀ t y, sl t = some y → o.dst ≠ some t → ∃ v L, slGet vsl t = some v ∧ R C ρ' (vfOf h') (zr E' L) y v ∧
      ((∃ j o, j < i + 1 ∧ ops.toList[j]? = some o ∧ o.dst = some t ∧ L = mkpB (Region.before ops) j) ∨ (L = (fun _ => false) ∧ ∀ j o, j < i + 1 → ops.toList[j]? = some o → o.dst ≠ some t)) := by
    intro t y hy hne
    obtain ⟨w, L, h1, h2, h3⟩ := so t y hy
    refine ⟨w, L, h1, h2.mono he (zr_le hE fun _ h => h), ?_⟩
    rcases h3 with ⟨j, o', a, b, c, d⟩ | ⟨a, b⟩
    · exact .inl ⟨j, o', by omega, b, c, d⟩
    · refine .inr ⟨a, fun j o' hj hoj => ?_⟩
      rcases Nat.lt_or_ge j i with h5 | h5
      · exact b j o' h5 hoj
      · have : j = i := by omega
        subst this
        rw [ho] at hoj
        cases hoj
        exact hne
  intro t y hy
  cases hd : o.dst with
  | none =>
    rw [hd] at hy
    simp only [putP, putV]
    exact old t y hy (by rw [hd]; simp)
  | some d =>
    rw [hd] at hy
    simp only [putP, PSL.put] at hy
    simp only [putV]
    rw [slGetPut]
    by_cases e : t = d
    · subst e
      simp only [if_true, Option.some.injEq] at hy ⊢
      subst hy
      exact ⟨v, _, rfl, hr, .inl ⟨i, o, by omega, ho, hd, rfl⟩⟩
    · simp only [e, if_false] at hy
      rw [if_neg (fun h => e h.symm)]
      exact old t y hy (by rw [hd]; simp; exact fun h => e h.symm)

theorem SlotOk.look (so : SlotOk C ops i sl vsl E ρ h) (D1 : slotsOk ops.toList (Region.before ops) = true) (D3 : ∀ i j k, i < ops.size → mkB (Region.before ops) i j = true → mkB (Region.before ops) j k = true → mkB (Region.before ops) i k = true) (hi : i < ops.size) (ho : ops.toList[i]? = some o) :
    SR C ρ (vfOf h) (zr E (mkB (Region.before ops) i)) (fun t => if (looksV ops.toList o).contains t then sl t else none) (pick vsl (looksV ops.toList o)) := by
  intro t y hy
  try dsimp only at hy
  split at hy
  · rename_i hc
    have hm : t ∈ looksV ops.toList o := by simpa using hc
    obtain ⟨w, L, h1, h2, h3⟩ := so t y hy
    refine ⟨w, pick_get _ _ _ _ hm h1, h2.mono (Ext.refl _ _) (zr_le (fun _ _ h => h) fun j hj => ?_)⟩
    rcases h3 with ⟨j', o', a, b, c, rfl⟩ | ⟨rfl, _⟩
    · have hmk := ((slots_pair D1 ho b (by omega) c).2 hm).1 a
      unfold mkpB at hj
      rw [Bool.or_eq_true] at hj
      rcases hj with hj | hj
      · exact D3 i j' j hi hmk hj
      · rw [Nat.beq_eq] at hj
        subst hj
        exact hmk
    · cases hj
  · cases hy

theorem rcP_push {st' : DSt} {q : Rec} (hr : st'.recs = q :: st.recs) (hl : st.recs.length = i) (c : Nat) : rcP st' c = if c = i then some q else rcP st c := by
  unfold rcP
  rw [hr, List.reverse_cons]
  by_cases e : c = i
  · subst e
    rw [if_pos rfl, List.getElem?_append_right (by simp [hl])]
    simp [hl]
  · rw [if_neg e]
    rcases Nat.lt_or_ge c i with h1 | h1
    · rw [List.getElem?_append_left (by simp [hl, h1])]
    · rw [List.getElem?_append_right (by simp [hl]; omega)]
      simp only [List.length_reverse, hl]
      rw [List.getElem?_eq_none (by simp; omega), List.getElem?_eq_none (by simp [hl]; omega)]
theorem rcP_lt {c : Nat} {q : Rec} (hl : st.recs.length = i) (h : rcP st c = some q) : c < i := by
  unfold rcP at h
  obtain ⟨h1, _⟩ := List.getElem?_eq_some_iff.1 h
  simpa [hl] using h1
theorem sgP_top (D : DI C cf yf K ops B M ρ0 Z0 h0 vh0 i s st E LH ka ρ S rest) : sgP st st.k = some S := by
  unfold sgP
  rw [D.hs, List.reverse_cons, List.getElem?_append_right (by simp [D.hlen])]
  simp [D.hlen]
theorem sgP_le {k : Nat} {SS : VH} (D : DI C cf yf K ops B M ρ0 Z0 h0 vh0 i s st E LH ka ρ S rest) (h : sgP st k = some SS) : k ≤ st.k := by
  unfold sgP at h
  obtain ⟨h1, _⟩ := List.getElem?_eq_some_iff.1 h
  rw [D.hs] at h1
  simp [D.hlen] at h1
  omega

/-- A step that changes no object. w: a look at an object, or none. -/
theorem DI.quiet (D : DI C cf yf K ops B M ρ0 Z0 h0 vh0 i s st E LH ka ρ S rest) (ho : ops.toList[i]? = some o) {q : Rec} (hq : q.k = st.k) (hk : q.kind = 0 ∨ q.kind = 2) (hr : R C ρ (vfOf s.h) (zr E (mkpB (Region.before ops) i)) x v)
    {lst : List (Nat × Bool)} (hl : lst = s.st ∨ (lst = (i, false) :: s.st ∧ ∀ c, (c, true) ∈ s.st → mkB (Region.before ops) i c = true)) (hc : q.kind = 0 ∨ (sameV 3 q.v q.v = true ∧ FreeR C cf yf ops i q E st.made) ∨ (i, false) ∈ lst) :
    DI C cf yf K ops B M ρ0 Z0 h0 vh0 (i + 1) { s with sl := putP s.sl o.dst x, st := lst } { st with sl := putV st.sl o.dst v, recs := q :: st.recs } E LH ka ρ S rest := by
  have hrc := fun c => rcP_push (st := st) (st' := { st with sl := putV st.sl o.dst v, recs := q :: st.recs }) (q := q) rfl D.rlen c
  have hin : ∀ c w, (c, w) ∈ s.st → (c, w) ∈ lst := fun c w h => by
    rcases hl with rfl | ⟨rfl, _⟩
    · exact h
    · exact List.mem_cons_of_mem _ h
  have hout : ∀ c w, (c, w) ∈ lst → (c, w) ∈ s.st ∨ (c = i ∧ w = false) := fun c w h => by
    rcases hl with rfl | ⟨rfl, _⟩
    · exact .inl h
    · rcases List.mem_cons.1 h with h | h
      · cases h; exact .inr ⟨rfl, rfl⟩
      · exact .inl h
  have htr : ∀ c, (c, true) ∈ lst → (c, true) ∈ s.st := fun c h => by
    rcases hout c true h with h | ⟨_, h⟩
    · exact h
    · cases h
  refine ⟨D.hs, D.hlen, by simp [D.rlen], D.sm, D.hp, D.e0, D.eN, fun vid s' j hE => (D.eO vid s' j hE).imp id fun h => ⟨h.1, hin _ _ h.2⟩, D.slot.push ho hr (Ext.refl _ _) (fun _ _ h => h), fun j hj => ?_, fun j hj => D.lhF j (htr j hj), fun c hc => ?_, D.pl, fun c hc => by have := D.mb c hc; omega, D.ml, D.no, fun c w hc => ?_,
    D.sg, fun j hj => ?_, fun c w c' w' h1 h2 hlt hw => ?_, fun c q' hq' => ?_, fun c c' q1 q2 hlt h1 h2 => ?_, fun k hk => ?_, fun c q' hq' => ?_, D.sx⟩
  · obtain ⟨c, h1, h2⟩ := D.lh j hj
    exact ⟨c, h1.imp (hin _ _) id, h2⟩
  · obtain ⟨a, b⟩ := D.md c hc; exact ⟨by omega, b⟩
  · rcases hout c w hc with h | ⟨h, _⟩
    · have := D.sti c w h; omega
    · omega
  · obtain ⟨q', h1, h2⟩ := D.kaT j (htr j hj)
    refine ⟨q', ?_, h2⟩
    rw [hrc, if_neg (by have := rcP_lt D.rlen h1; omega)]
    exact h1
  · rcases hout c w h1 with h1' | ⟨rfl, rfl⟩
    · rcases hout c' w' h2 with h2' | ⟨rfl, rfl⟩
      · exact D.ord c w c' w' h1' h2' hlt hw
      · have := D.sti c w h1'; omega
    · rcases hout c' w' h2 with h2' | ⟨rfl, rfl⟩
      · rcases hw with hw | hw
        · cases hw
        · subst hw
          rcases hl with rfl | ⟨_, hl⟩
          · exact absurd (D.sti _ _ h1) (by omega)
          · exact hl c' h2'
      · omega
  · rw [hrc] at hq'
    split at hq'
    · cases hq'
      refine ⟨by rw [hq]; exact Nat.le_refl _, fun h3 => ?_⟩
      rcases hk with hk | hk <;> rw [hk] at h3 <;> cases h3
    · exact D.rk c q' hq'
  · rw [hrc] at h1 h2
    split at h1
    · split at h2
      · omega
      · have := rcP_lt D.rlen h2; omega
    · split at h2
      · cases h2
        obtain ⟨a, b⟩ := D.rk c q1 h1
        rw [hq]
        exact ⟨a, b⟩
      · exact D.rm c c' q1 q2 hlt h1 h2
  · obtain ⟨c, q', h1, h2⟩ := D.rw k hk
    refine ⟨c, q', ?_, h2⟩
    rw [hrc, if_neg (by have := rcP_lt D.rlen h1; omega)]
    exact h1
  · rw [hrc] at hq'
    split at hq'
    · rename_i e
      cases hq'
      subst e
      rcases hc with hc | hc | hc
      · exact .inl (.inl hc)
      · rcases hk with hk | hk
        · exact .inl (.inl hk)
        · exact .inr (.inl ⟨hk, hc⟩)
      · rcases hk with hk | hk
        · exact .inl (.inl hk)
        · exact .inr (.inr ⟨false, hc, .inl hk⟩)
    · rcases D.rc c q' hq' with h | h | ⟨w, h1, h2⟩
      · exact .inl h
      · exact .inr (.inl h)
      · exact .inr (.inr ⟨w, hin _ _ h1, h2⟩)
end
end Go.Pure
end

section
set_option linter.unusedVariables false
set_option linter.unusedSimpArgs false
namespace Go.Pure
open Go Go.Virt

section
variable {C : Ctx} {cf yf : Nat → List Value → VH → Option (Value × VH)} {K : Loc} {n : Nat} {ops : Array Oper} {B M : Nat} {ρ0 : Nat → Nat} {Z0 : Sig} {h0 : PH} {vh0 : VH}
  {i : Nat} {s : PD} {st : DSt} {E E' : Ent} {LH LH' : Nat → Bool} {ka : Nat → Nat} {ρ ρ' : Nat → Nat} {h h' : PH} {S S' vh' : VH} {rest : List VH} {o : Oper} {x : PV} {v : Value} {sl : PSL} {vsl : SL}

theorem bit_or (m i j : Nat) : (m ||| 2 ^ i).testBit j = (m.testBit j || Nat.beq j i) := by
  rw [Nat.testBit_or, Nat.testBit_two_pow]
  congr 1
  by_cases e : i = j
  · subst e; simp
  · simp [e, nbeq (Ne.symm e)]

/-- A step that makes an object. -/
theorem DI.make (D : DI C cf yf K ops B M ρ0 Z0 h0 vh0 i s st E LH ka ρ S rest) (D2 : ∀ i j, i < ops.size → mkB (Region.before ops) i j = true → j < i) (ho : ops.toList[i]? = some o) (hiM : B + i < M) {q : Rec} (hq : q.k = st.k) (hk : q.kind = 1) {vo : VO} {made' : List Nat}
    (hE : ∀ vid y, E vid = some y → E' vid = some y) (hE' : ∀ vid y, E' vid = some y → E vid = some y ∨ (vid = B + i ∧ y.2 = some i ∧ vo = .row y.1.cells y.1.e y.1.own))
    (hp' : HP C ρ' (zr E' LH') (S.put (B + i) (some vo)) h') (hr : R C ρ' (vfOf h') (zr E' (mkpB (Region.before ops) i)) x v) (hext : Ext ρ (vfOf s.h) ρ' (vfOf h'))
    (hl1 : ∀ j, LH j = true → LH' j = true) (hl2 : ∀ j, LH' j = true → LH j = true ∨ (i ∈ made' ∧ mkpB (Region.before ops) i j = true)) (hm : (made' = s.made ∧ ∃ y, E' (B + i) = some y) ∨ (made' = i :: s.made ∧ E' (B + i) = none))
    (hpl : ∀ id y, h'.get id = some y → B ≤ ρ' id → ρ' id < M → ∃ c ∈ made', ρ' id = B + c) (hsx : SX K ρ0 h0 vh0 ρ' h' (S.put (B + i) (some vo))) :
    DI C cf yf K ops B M ρ0 Z0 h0 vh0 (i + 1) { s with sl := putP s.sl o.dst x, h := h', made := made' } { st with sl := putV st.sl o.dst v, recs := q :: st.recs, hs := st.hs.map (·.put (B + i) (some vo)), made := st.made ||| 2 ^ i } E' LH' (fun j => if j = i then 0 else ka j) ρ' (S.put (B + i) (some vo)) (rest.map (·.put (B + i) (some vo))) := by
  have hrc := fun c => rcP_push (st := st) (st' := { st with sl := putV st.sl o.dst v, recs := q :: st.recs, hs := st.hs.map (·.put (B + i) (some vo)), made := st.made ||| 2 ^ i }) (q := q) rfl D.rlen c
  have hsg : ∀ k SS, sgP { st with sl := putV st.sl o.dst v, recs := q :: st.recs, hs := st.hs.map (·.put (B + i) (some vo)), made := st.made ||| 2 ^ i } k = some SS → ∃ TT, sgP st k = some TT ∧ SS = TT.put (B + i) (some vo) := by
    intro k SS h1
    unfold sgP at h1 ⊢
    rw [← List.map_reverse, List.getElem?_map, Option.map_eq_some_iff] at h1
    obtain ⟨TT, h2, h3⟩ := h1
    exact ⟨TT, h2, h3.symm⟩
  have hEne : ∀ vid y, E vid = some y → vid ≠ B + i := by
    intro vid y hy e
    subst e
    obtain ⟨s', ow⟩ := y
    cases ow with
    | none => have := D.eN _ _ hy; omega
    | some j =>
      rcases D.eO _ _ _ hy with ⟨a, b, _⟩ | ⟨a, _⟩
      · have := D.mb j b; omega
      · rcases a with a | a | ⟨c, hc, a, _⟩
        · omega
        · omega
        · have := (D.md c hc).1; omega
  have hin : ∀ c, c ∈ s.made → c ∈ made' := fun c hc => by
    rcases hm with ⟨rfl, _⟩ | ⟨rfl, _⟩
    · exact hc
    · exact List.mem_cons_of_mem _ hc
  refine ⟨by simp [D.hs], by simp [D.hlen], by simp [D.rlen], fun k SS hk => ?_, hp', fun vid s' h => hE _ _ (D.e0 vid s' h), fun vid s' h => ?_, fun vid s' j h => ?_, D.slot.push ho hr hext hE, fun j hj => ?_, fun j hj => hl1 j (D.lhF j hj), fun c hc => ?_, hpl, fun c hc => ?_, fun c hc => ?_, fun c k SS hc hcM hS => ?_, fun c w hc => by have := D.sti c w hc; omega,
    fun k SS vid s' ow hS h hka => ?_, fun j hj => ?_, D.ord, fun c q' hq' => ?_, fun c c' q1 q2 hlt h1 h2 => ?_, fun k hk => ?_, fun c q' hq' => ?_, hsx⟩
  · obtain ⟨TT, h1, rfl⟩ := hsg k SS hk
    exact D.sm k TT h1
  · rcases hE' _ _ h with h | ⟨_, h, _⟩
    · exact D.eN _ _ h
    · cases h
  · rcases hE' _ _ h with h | ⟨h1, h2, _⟩
    · rcases D.eO _ _ _ h with ⟨a, b, c, d⟩ | ⟨a, b⟩
      · refine .inl ⟨a, by rw [bit_or, b]; rfl, ?_, ?_⟩
        · try dsimp only
          split
          · rfl
          · exact c
        · rcases hm with ⟨rfl, _⟩ | ⟨rfl, _⟩
          · exact d
          · have := D.mb j b
            simp only [List.mem_cons, not_or]
            exact ⟨by omega, d⟩
      · refine .inr ⟨?_, b⟩
        rcases a with a | a | ⟨c, hc, a⟩
        · exact .inl a
        · exact .inr (.inl a)
        · exact .inr (.inr ⟨c, hin c hc, a⟩)
    · cases h2
      refine .inl ⟨h1, by rw [bit_or]; simp, by simp, ?_⟩
      rcases hm with ⟨rfl, _⟩ | ⟨rfl, h5⟩
      · intro hmem
        have := (D.md _ hmem).1
        omega
      · rw [h1] at h
        rw [h5] at h
        cases h
  · rcases hl2 j hj with h | ⟨h1, h2⟩
    · obtain ⟨c, h3, h4⟩ := D.lh j h
      exact ⟨c, h3.imp id (hin c), h4⟩
    · exact ⟨i, .inr h1, h2⟩
  · have hold : ∀ c ∈ s.made, c < i + 1 ∧ (st.made ||| 2 ^ i).testBit c = true := fun c hc => by
      obtain ⟨a, b⟩ := D.md c hc
      exact ⟨by omega, by rw [bit_or, b]; rfl⟩
    rcases hm with ⟨rfl, _⟩ | ⟨rfl, h⟩
    · exact hold c hc
    · rcases List.mem_cons.1 hc with rfl | hc
      · exact ⟨by omega, by rw [bit_or]; simp⟩
      · exact hold c hc
  · rw [bit_or, Bool.or_eq_true] at hc
    rcases hc with hc | hc
    · have := D.mb c hc; omega
    · rw [Nat.beq_eq] at hc; omega
  · rw [bit_or, Bool.or_eq_true] at hc
    rcases hc with hc | hc
    · rcases D.ml c hc with h | ⟨y, h⟩
      · exact .inl (hin c h)
      · exact .inr ⟨y, hE _ _ h⟩
    · rw [Nat.beq_eq] at hc
      subst hc
      rcases hm with ⟨rfl, h⟩ | ⟨rfl, _⟩
      · exact .inr h
      · exact .inl (by simp)
  · obtain ⟨TT, h1, rfl⟩ := hsg k SS hS
    rw [bit_or, Bool.or_eq_false_iff] at hc
    have hne : c ≠ i := fun e => by subst e; simp at hc
    simp only [VH.put, nbeq (show B + c ≠ B + i by omega), cond_false]
    exact D.no c k TT hc.1 hcM h1
  · obtain ⟨TT, h1, rfl⟩ := hsg k SS hS
    rcases hE' _ _ h with h | ⟨h2, h3, h4⟩
    · simp only [VH.put, nbeq (hEne _ _ h), cond_false]
      refine D.sg k TT vid s' ow h1 h fun j hj => ?_
      have := hka j hj
      split at this
      · rename_i e
        subst e
        subst hj
        rcases D.eO _ _ _ h with ⟨_, b, c⟩ | ⟨_, b⟩
        · have := D.mb j b; omega
        · have := D.sti j true b; omega
      · exact this
    · subst h2
      simp only [VH.put, Nat.beq_refl, cond_true]
      rw [h4]
  · obtain ⟨q', h1, h2⟩ := D.kaT j hj
    have := rcP_lt D.rlen h1
    refine ⟨q', by rw [hrc, if_neg (by omega)]; exact h1, ?_⟩
    rw [if_neg (by omega)]
    exact h2
  · rw [hrc] at hq'
    split at hq'
    · cases hq'
      refine ⟨by rw [hq]; exact Nat.le_refl _, fun h3 => ?_⟩
      rw [hk] at h3; cases h3
    · exact D.rk c q' hq'
  · rw [hrc] at h1 h2
    split at h1
    · split at h2
      · omega
      · have := rcP_lt D.rlen h2; omega
    · split at h2
      · cases h2
        obtain ⟨a, b⟩ := D.rk c q1 h1
        rw [hq]
        exact ⟨a, b⟩
      · exact D.rm c c' q1 q2 hlt h1 h2
  · obtain ⟨c, q', h1, h2⟩ := D.rw k hk
    refine ⟨c, q', ?_, h2⟩
    rw [hrc, if_neg (by have := rcP_lt D.rlen h1; omega)]
    exact h1
  · rw [hrc] at hq'
    split at hq'
    · cases hq'; exact .inl (.inr hk)
    · rename_i hne
      have hci := rcP_lt D.rlen hq'
      rcases D.rc c q' hq' with h | ⟨h1, h2, ZF, h3, h4, h5⟩ | h
      · exact .inl h
      · refine .inr (.inl ⟨h1, h2, ZF, fun vid s' hz => ?_, fun j hj hb => ?_, h5⟩)
        · obtain ⟨ow, a, b⟩ := h3 vid s' hz
          exact ⟨ow, hE _ _ a, b⟩
        · rw [bit_or, Bool.or_eq_true] at hb
          rcases hb with hb | hb
          · exact h4 j hj hb
          · rw [Nat.beq_eq] at hb
            subst hb
            have hsz : j < ops.size := by
              obtain ⟨h6, _⟩ := List.getElem?_eq_some_iff.1 ho
              simpa using h6
            have := D2 c j (by omega) hj
            omega
      · exact .inr (.inr h)

def hid (B M vis q : Nat) : Prop := B ≤ q ∧ q < M ∧ vis.testBit (q - B) = false
theorem view_hid {vis q : Nat} (h : hid B M vis q) : (view B M vis S).get q = none := by
  obtain ⟨h1, h2, h3⟩ := h
  have e1 : Nat.ble B q = true := by rw [Nat.ble_eq]; exact h1
  have e2 : Nat.blt q M = true := by rw [Nat.blt_eq]; exact h2
  simp [view, restr, e1, e2, h3]
theorem view_seen {vis q : Nat} (h : ¬ hid B M vis q) : (view B M vis S).get q = S.get q := by
  unfold view restr
  simp only
  cases e1 : Nat.ble B q && Nat.blt q M with
  | false => rfl
  | true =>
    rw [Bool.and_eq_true, Nat.ble_eq, Nat.blt_eq] at e1
    cases e2 : vis.testBit (q - B) with
    | true => rfl
    | false => exact absurd ⟨e1.1, e1.2, e2⟩ h
theorem over_get {vis q : Nat} : (hid B M vis q → (over B M vis S vh').get q = S.get q) ∧ (¬ hid B M vis q → (over B M vis S vh').get q = vh'.get q) := by
  unfold over
  simp only
  constructor
  · rintro ⟨h1, h2, h3⟩
    have e1 : Nat.ble B q = true := by rw [Nat.ble_eq]; exact h1
    have e2 : Nat.blt q M = true := by rw [Nat.blt_eq]; exact h2
    simp [e1, e2, h3]
  · intro h
    cases e1 : Nat.ble B q && Nat.blt q M with
    | false => simp
    | true =>
      rw [Bool.and_eq_true, Nat.ble_eq, Nat.blt_eq] at e1
      cases e2 : vis.testBit (q - B) with
      | true => simp
      | false => exact absurd ⟨e1.1, e1.2, e2⟩ h

theorem DI.lhs (D : DI C cf yf K ops B M ρ0 Z0 h0 vh0 i s st E LH ka ρ S rest) (D3 : ∀ i j k, i < ops.size → mkB (Region.before ops) i j = true → mkB (Region.before ops) j k = true → mkB (Region.before ops) i k = true) (hi : i < ops.size)
    (h1 : ∀ c, (c, true) ∈ s.st → mkB (Region.before ops) i c = true) (h2 : ∀ c ∈ s.made, mkB (Region.before ops) i c = true) (j : Nat) (hj : LH j = true) : mkB (Region.before ops) i j = true := by
  obtain ⟨c, hc, hm⟩ := D.lh j hj
  have hic : mkB (Region.before ops) i c = true := hc.elim (h1 c) (h2 c)
  unfold mkpB at hm
  rw [Bool.or_eq_true] at hm
  rcases hm with hm | hm
  · exact D3 i c j hi hic hm
  · rw [Nat.beq_eq] at hm; subst hm; exact hic

/-- An object's place is not hidden. -/
theorem DI.place (D : DI C cf yf K ops B M ρ0 Z0 h0 vh0 i s st E LH ka ρ S rest) (h2 : ∀ c ∈ s.made, mkB (Region.before ops) i c = true) {id : Nat} {y : Nat × PO} (hy : s.h.get id = some y) : ¬ hid B M ((Region.before ops).getD i 0 &&& st.made) (ρ id) := by
  rintro ⟨a, b, c⟩
  obtain ⟨d, hd, e⟩ := D.pl id y hy a b
  rw [e, Nat.add_sub_cancel_left, Nat.testBit_and, (D.md d hd).2, Bool.and_true] at c
  have := h2 d hd
  unfold mkB at this
  rw [this] at c
  cases c
/-- An entry of an operation before i is seen. -/
theorem DI.seen (D : DI C cf yf K ops B M ρ0 Z0 h0 vh0 i s st E LH ka ρ S rest) (D3 : ∀ i j k, i < ops.size → mkB (Region.before ops) i j = true → mkB (Region.before ops) j k = true → mkB (Region.before ops) i k = true) (hi : i < ops.size) {vid : Nat} {s' : SE} (h : zr E (mkB (Region.before ops) i) vid = some s') (hB : B ≤ S.next) : ¬ hid B M ((Region.before ops).getD i 0 &&& st.made) vid := by
  rintro ⟨a, b, c⟩
  obtain ⟨ow, h1, h2⟩ := zr_some.1 h
  cases ow with
  | none => have := D.eN _ _ h1; omega
  | some j =>
    rcases D.eO _ _ _ h1 with ⟨d, e, _⟩ | ⟨d, _⟩
    · subst d
      rw [Nat.add_sub_cancel_left, Nat.testBit_and, e, Bool.and_true] at c
      have := h2 j rfl
      unfold mkB at this
      rw [this] at c
      cases c
    · rcases d with d | d | ⟨g, hg, d, hm⟩
      · omega
      · omega
      · subst d
        rw [Nat.add_sub_cancel_left, Nat.testBit_and, (D.md g hg).2, Bool.and_true] at c
        have := D3 i j g hi (h2 j rfl) hm
        unfold mkB at this
        rw [this] at c
        cases c
theorem DI.pnone (D : DI C cf yf K ops B M ρ0 Z0 h0 vh0 i s st E LH ka ρ S rest) {id : Nat} {y : Nat × PO} (hM : B + i ≤ M) (hy : s.h.get id = some y) (hz : zr E LH (ρ id) = none) : E (ρ id) = none := by
  cases e : E (ρ id) with
  | none => rfl
  | some z =>
    obtain ⟨s', ow⟩ := z
    have : ∀ j, ow = some j → LH j = true := by
      intro j hj
      subst hj
      rcases D.eO _ _ _ e with ⟨a, b, c, g⟩ | ⟨a, b⟩
      · exfalso
        have := D.mb j b
        obtain ⟨d, hd, e2⟩ := D.pl id y hy (by omega) (by omega)
        have : d = j := by omega
        subst this
        exact g hd
      · exact D.lhF j b
    rw [zr_some.2 ⟨ow, e, this⟩] at hz
    cases hz
end
end Go.Pure
end

section
set_option linter.unusedVariables false
set_option linter.unusedSimpArgs false
namespace Go.Pure
open Go Go.Virt

section
variable {C : Ctx} {cf yf : Nat → List Value → VH → Option (Value × VH)} {K : Loc} {n : Nat} {ops : Array Oper} {B M : Nat} {ρ0 : Nat → Nat} {Z0 : Sig} {h0 : PH} {vh0 : VH}
  {i : Nat} {s : PD} {st : DSt} {E E' : Ent} {LH LH' : Nat → Bool} {ka : Nat → Nat} {ρ ρ' : Nat → Nat} {h h' : PH} {S S' vh' : VH} {rest : List VH} {o : Oper} {x : PV} {v : Value} {sl : PSL} {vsl : SL} {Z' : Sig}

theorem DI.viewHP (D : DI C cf yf K ops B M ρ0 Z0 h0 vh0 i s st E LH ka ρ S rest) (D3 : ∀ i j k, i < ops.size → mkB (Region.before ops) i j = true → mkB (Region.before ops) j k = true → mkB (Region.before ops) i k = true) (hi : i < ops.size) (hM : B + i ≤ M)
    (h1 : ∀ c, (c, true) ∈ s.st → mkB (Region.before ops) i c = true) (h2 : ∀ c ∈ s.made, mkB (Region.before ops) i c = true) : HP C ρ (zr E (mkB (Region.before ops) i)) (view B M ((Region.before ops).getD i 0 &&& st.made) S) s.h := by
  have hSM : M ≤ S.next := D.sm _ _ (sgP_top D)
  have hle : Sig.le (zr E LH) (zr E (mkB (Region.before ops) i)) := zr_le (fun _ _ h => h) (D.lhs D3 hi h1 h2)
  refine ⟨D.hp.lt, D.hp.inj, fun q y hy => ?_, fun vid s' hs => ?_, fun id ver ob hob => ?_, Nat.le_refl _⟩
  · by_cases e : hid B M ((Region.before ops).getD i 0 &&& st.made) q
    · rw [view_hid e] at hy; cases hy
    · rw [view_seen e] at hy
      exact D.hp.vlt q y hy
  · rw [view_seen (D.seen D3 hi hs (by omega))]
    obtain ⟨ow, a, b⟩ := zr_some.1 hs
    refine D.sg st.k S vid s' ow (sgP_top D) a fun j hj => ?_
    subst hj
    rcases D.eO _ _ _ a with ⟨_, _, c, _⟩ | ⟨_, c⟩
    · omega
    · obtain ⟨q, k1, k2⟩ := D.kaT j c
      have := D.rk j q k1
      rcases k2 with ⟨_, k2⟩ | ⟨k3, k2⟩
      · omega
      · have := this.2 k3; omega
  · refine (D.hp.obj id ver ob hob).mono (Ext.refl _ _) hle (fun hz => ?_) (fun _ => view_seen (D.place h2 hob)) (Nat.le_refl _) (Nat.le_refl _)
    have := D.pnone hM hob hz
    unfold zr
    rw [this]

/-- A step that may write. -/
theorem DI.write (D : DI C cf yf K ops B M ρ0 Z0 h0 vh0 i s st E LH ka ρ S rest) (D3 : ∀ i j k, i < ops.size → mkB (Region.before ops) i j = true → mkB (Region.before ops) j k = true → mkB (Region.before ops) i k = true) (hi : i < ops.size) (hM : B + i < M) (hB : B = vh0.next)
    (H0 : ∀ i y, h0.get i = some y → ρ0 i < vh0.next) (ho : ops.toList[i]? = some o) (h1 : ∀ c w, (c, w) ∈ s.st → mkB (Region.before ops) i c = true) (h2 : ∀ c ∈ s.made, mkB (Region.before ops) i c = true)
    (st1 : St C K ρ (zr E (mkB (Region.before ops) i)) s.h (view B M ((Region.before ops).getD i 0 &&& st.made) S) ρ' Z' h' vh') (hR : R C ρ' (vfOf h') Z' x v)
    (hS1 : ∀ q, hid B M ((Region.before ops).getD i 0 &&& st.made) q → S'.get q = S.get q) (hS2 : ∀ q, ¬ hid B M ((Region.before ops).getD i 0 &&& st.made) q → S'.get q = vh'.get q) (hSn : S'.next = vh'.next) (hw1 : S'.wr ≤ S.wr) (hw2 : ∀ q, q < vh0.next → vh'.wr ≤ q → S'.wr ≤ q)
    {q : Rec} (hq : q.k = st.k) {k' : Nat} {rest' : List VH} (hkk : (q.kind = 2 ∧ k' = st.k ∧ rest' = rest ∧ S' = S) ∨ (q.kind = 3 ∧ k' = st.k + 1 ∧ rest' = S :: rest)) :
    ∃ E' LH' ka', DI C cf yf K ops B M ρ0 Z0 h0 vh0 (i + 1) { s with sl := putP s.sl o.dst x, h := h', st := (i, true) :: s.st } { st with sl := putV st.sl o.dst v, recs := q :: st.recs, hs := S' :: rest', k := k' } E' LH' ka' ρ' S' rest' := by
  classical
  have hSM : M ≤ S.next := D.sm _ _ (sgP_top D)
  let vis := (Region.before ops).getD i 0 &&& st.made
  have h1' : ∀ c, (c, true) ∈ s.st → mkB (Region.before ops) i c = true := fun c hc => h1 c true hc
  have hVn : (view B M vis S).next = S.next := rfl
  -- nothing is frozen at a hidden place
  have hplace : ∀ id y, h'.get id = some y → ¬ hid B M vis (ρ' id) := by
    intro id y hy
    rcases st1.plc id y hy with ⟨⟨z, hz⟩, e⟩ | e
    · rw [e]; exact D.place h2 hz
    · rintro ⟨_, a, _⟩
      have : S.next ≤ ρ' id := e
      omega
  have hZhid : ∀ vid, hid B M vis vid → Z' vid = none := by
    intro vid hh
    cases e : Z' vid with
    | none => rfl
    | some s' =>
      have := st1.hp.sig vid s' e
      rw [st1.vnone vid (by rw [hVn]; have := hh.2.1; omega) (view_hid hh) fun id y hy e2 => D.place h2 hy (e2 ▸ hh)] at this
      cases this
  let E' : Ent := fun vid => match E vid with
    | some y => some y
    | none => (Z' vid).map fun s' => (s', some i)
  have hE : ∀ vid y, E vid = some y → E' vid = some y := fun vid y hy => by simp only [E', hy]
  have hE' : ∀ vid y, E' vid = some y → E vid = some y ∨ (E vid = none ∧ Z' vid = some y.1 ∧ y.2 = some i) := by
    intro vid y hy
    simp only [E'] at hy
    split at hy
    · rename_i z hz; cases hy; exact .inl hz
    · rename_i hz
      rw [Option.map_eq_some_iff] at hy
      obtain ⟨s', a, rfl⟩ := hy
      exact .inr ⟨hz, a, rfl⟩
  -- what is seen of the old entries
  have hold : ∀ vid s' ow, E vid = some (s', ow) → ¬ hid B M vis vid → zr E (mkB (Region.before ops) i) vid = some s' := by
    intro vid s' ow he hh
    refine zr_some.2 ⟨ow, he, fun j hj => ?_⟩
    subst hj
    rcases D.eO _ _ _ he with ⟨a, b, _⟩ | ⟨_, b⟩
    · have hji := D.mb j b
      cases e : mkB (Region.before ops) i j with
      | true => rfl
      | false =>
        refine absurd ⟨by omega, by omega, ?_⟩ hh
        rw [a, Nat.add_sub_cancel_left, Nat.testBit_and]
        unfold mkB at e
        rw [e]
        rfl
    · exact h1' j b
  have hZ : ∀ vid s', Z' vid = some s' ↔ zr E' (mkpB (Region.before ops) i) vid = some s' := by
    intro vid s'
    constructor
    · intro hz
      cases e : E vid with
      | none => exact zr_some.2 ⟨some i, by simp only [E', e, hz, Option.map_some], fun j hj => by cases hj; simp [mkpB]⟩
      | some y =>
        obtain ⟨s2, ow⟩ := y
        have hh : ¬ hid B M vis vid := fun hh => by rw [hZhid vid hh] at hz; cases hz
        have a := hold vid s2 ow e hh
        have b := st1.sig _ _ a
        rw [hz] at b
        cases b
        obtain ⟨ow', c, d⟩ := zr_some.1 a
        exact zr_some.2 ⟨ow', hE _ _ c, fun j hj => by unfold mkpB; rw [d j hj]; rfl⟩
    · intro hz
      obtain ⟨ow, a, b⟩ := zr_some.1 hz
      rcases hE' _ _ a with c | ⟨_, c, _⟩
      · refine st1.sig _ _ (zr_some.2 ⟨ow, c, fun j hj => ?_⟩)
        have := b j hj
        unfold mkpB at this
        rw [Bool.or_eq_true] at this
        rcases this with h | h
        · exact h
        · rw [Nat.beq_eq] at h
          subst h
          subst hj
          rcases D.eO _ _ _ c with ⟨_, e, _⟩ | ⟨_, e⟩
          · have := D.mb _ e; omega
          · have := D.sti _ _ e; omega
      · exact c
  have hZeq : Z' = zr E' (mkpB (Region.before ops) i) := by
    funext vid
    cases e : zr E' (mkpB (Region.before ops) i) vid with
    | some s' => exact (hZ vid s').2 e
    | none =>
      cases e2 : Z' vid with
      | none => rfl
      | some s' => rw [(hZ vid s').1 e2] at e; cases e
  let LH' : Nat → Bool := fun j => LH j || mkpB (Region.before ops) i j
  have hSM' : M ≤ S'.next := by rw [hSn]; have : S.next ≤ vh'.next := st1.vnext; omega
  -- the entries in the new heap
  have hsig : ∀ vid y, E' vid = some y → S'.get vid = some (.row y.1.cells y.1.e y.1.own) := by
    intro vid y hy
    obtain ⟨s', ow⟩ := y
    by_cases hh : hid B M vis vid
    · rw [hS1 vid hh]
      rcases hE' _ _ hy with c | ⟨_, c, _⟩
      · refine D.sg st.k S vid s' ow (sgP_top D) c fun j hj => ?_
        subst hj
        rcases D.eO _ _ _ c with ⟨_, _, e, _⟩ | ⟨_, e⟩
        · omega
        · obtain ⟨q1, k1, k2⟩ := D.kaT j e
          have := D.rk j q1 k1
          rcases k2 with ⟨_, k2⟩ | ⟨k3, k2⟩
          · omega
          · have := this.2 k3; omega
      · rw [hZhid vid hh] at c; cases c
    · rw [hS2 vid hh]
      rcases hE' _ _ hy with c | ⟨_, c, _⟩
      · exact st1.hp.sig _ _ (st1.sig _ _ (hold vid s' ow c hh))
      · exact st1.hp.sig _ _ c
  have hp' : HP C ρ' (zr E' LH') S' h' := by
    refine ⟨st1.hp.lt, st1.hp.inj, fun p y hy => ?_, fun vid s' hs => ?_, fun id ver ob hob => ?_, ?_⟩
    · by_cases hh : hid B M vis p
      · rw [hS1 p hh] at hy
        have := D.hp.vlt p y hy
        rw [hSn]
        have : S.next ≤ vh'.next := st1.vnext
        omega
      · rw [hS2 p hh] at hy
        rw [hSn]
        exact st1.hp.vlt p y hy
    · obtain ⟨ow, a, _⟩ := zr_some.1 hs
      exact hsig vid _ a
    · refine (st1.hp.obj id ver ob hob).mono (Ext.refl _ _) ?_ (fun hz => ?_) (fun _ => hS2 _ (hplace id _ hob)) (Nat.le_refl _) (by rw [hSn]; exact Nat.le_refl _)
      · rw [hZeq]
        exact zr_le (fun _ _ h => h) fun j hj => by simp only [LH', hj, Bool.or_true]
      · have hh := hplace id _ hob
        cases e : E' (ρ' id) with
        | none => unfold zr; rw [e]
        | some y =>
          exfalso
          obtain ⟨s', ow⟩ := y
          rcases hE' _ _ e with c | ⟨_, c, _⟩
          · rw [st1.sig _ _ (hold _ s' ow c hh)] at hz; cases hz
          · rw [c] at hz; cases hz
    · rcases hkk with ⟨_, _, _, e⟩ | ⟨_, _, _⟩
      · rw [e]; exact D.hp.wr
      · rw [hSn]
        have := D.hp.wr
        have : S.next ≤ vh'.next := st1.vnext
        omega
  have hsx : SX K ρ0 h0 vh0 ρ' h' S' := D.sx.step (hid := hid B M vis) H0 (fun p hp => by have := hp.1; omega) (by omega) st1 hVn (fun p hp => view_seen hp) (fun p hp => hS2 p hp) hw1 hw2
  let ka' : Nat → Nat := fun j => if j = i then k' else ka j
  have hka : ∀ j, j < i → ka' j = ka j := fun j hj => by simp only [ka']; rw [if_neg (by omega)]
  have hrc := fun c => rcP_push (st := st) (st' := { st with sl := putV st.sl o.dst v, recs := q :: st.recs, hs := S' :: rest', k := k' }) (q := q) rfl D.rlen c
  have hkle : st.k ≤ k' := by rcases hkk with ⟨_, e, _⟩ | ⟨_, e, _⟩ <;> omega
  have hsgc : ∀ k SS, sgP { st with sl := putV st.sl o.dst v, recs := q :: st.recs, hs := S' :: rest', k := k' } k = some SS → (k = k' ∧ SS = S') ∨ (k < k' ∧ sgP st k = some SS ∧ (q.kind = 2 → k < st.k)) := by
    intro k SS hk
    unfold sgP at hk ⊢
    rcases hkk with ⟨a, b, c, d⟩ | ⟨a, b, c⟩
    · simp only [List.reverse_cons] at hk
      rcases Nat.lt_or_ge k st.k with h5 | h5
      · refine .inr ⟨by omega, ?_, fun _ => h5⟩
        rw [List.getElem?_append_left (by simp [c, D.hlen, h5])] at hk
        rw [D.hs, List.reverse_cons, List.getElem?_append_left (by simp [D.hlen, h5]), ← c]
        exact hk
      · rw [List.getElem?_append_right (by simp [c, D.hlen, h5])] at hk
        simp only [List.length_reverse, c, D.hlen] at hk
        have : k = st.k := by
          rcases Nat.lt_or_ge (k - st.k) 1 with h6 | h6
          · omega
          · rw [List.getElem?_eq_none (by simp; omega)] at hk; cases hk
        subst this
        simp at hk
        exact .inl ⟨b.symm, hk.symm⟩
    · simp only [List.reverse_cons, c] at hk
      rcases Nat.lt_or_ge k (st.k + 1) with h5 | h5
      · refine .inr ⟨by omega, ?_, fun h => by rw [a] at h; cases h⟩
        rw [List.getElem?_append_left (by simp [D.hlen]; omega)] at hk
        rw [D.hs, List.reverse_cons]
        exact hk
      · rw [List.getElem?_append_right (by simp [D.hlen]; omega)] at hk
        simp only [List.length_append, List.length_reverse, D.hlen, List.length_cons, List.length_nil] at hk
        have : k = st.k + 1 := by
          rcases Nat.lt_or_ge (k - (st.k + 1)) 1 with h6 | h6
          · omega
          · rw [List.getElem?_eq_none (by simp; omega)] at hk; cases hk
        subst this
        simp at hk
        exact .inl ⟨b.symm, hk.symm⟩
  refine ⟨E', LH', ka', rfl, ?_, by simp [D.rlen], fun k SS hk => ?_, hp', fun vid s' h => hE _ _ (D.e0 vid s' h), fun vid s' h => ?_, fun vid s' j h => ?_, D.slot.push ho (by rw [← hZeq]; exact hR) st1.ext hE, fun j hj => ?_, fun j hj => ?_, fun c hc => ?_, fun id y hy ha hb => ?_, fun c hc => by have := D.mb c hc; omega, fun c hc => (D.ml c hc).imp id fun ⟨y, h⟩ => ⟨y, hE _ _ h⟩, fun c k SS hc hcM hS => ?_, fun c w hc => ?_,
    fun k SS vid s' ow hS h hk => ?_, fun j hj => ?_, fun c w c' w' g1 g2 hlt hw => ?_, fun c q' hq' => ?_, fun c c' q1 q2 hlt g1 g2 => ?_, fun k hk => ?_, fun c q' hq' => ?_, hsx⟩
  · rcases hkk with ⟨_, b, c, _⟩ | ⟨_, b, c⟩
    · rw [c]; exact D.hlen.trans b.symm
    · rw [c]; simp [D.hlen, b]
  · rcases hsgc k SS hk with ⟨_, e⟩ | ⟨_, e, _⟩
    · rw [e]; exact hSM'
    · exact D.sm k SS e
  · rcases hE' _ _ h with c | ⟨_, _, c⟩
    · exact D.eN _ _ c
    · cases c
  · rcases hE' _ _ h with c | ⟨hn, c, d⟩
    · rcases D.eO _ _ _ c with ⟨a, b, d, e⟩ | ⟨a, b⟩
      · exact .inl ⟨a, b, by rw [hka j (D.mb j b)]; exact d, e⟩
      · exact .inr ⟨a, List.mem_cons_of_mem _ b⟩
    · cases d
      refine .inr ⟨?_, by simp⟩
      rcases Nat.lt_or_ge vid B with h5 | h5
      · exact .inl h5
      · rcases Nat.lt_or_ge vid M with h6 | h6
        · right; right
          -- a place of the region that is seen and that is no literal's
          have hh : ¬ hid B M vis vid := fun hh => by rw [hZhid vid hh] at c; cases c
          have hbit : mkB (Region.before ops) i (vid - B) = true ∧ st.made.testBit (vid - B) = true := by
            cases e : vis.testBit (vid - B) with
            | false => exact absurd ⟨h5, h6, e⟩ hh
            | true =>
              simp only [vis, Nat.testBit_and, Bool.and_eq_true] at e
              exact e
          rcases D.ml _ hbit.2 with h7 | ⟨y, h7⟩
          · exact ⟨vid - B, h7, by omega, hbit.1⟩
          · rw [show B + (vid - B) = vid by omega, hn] at h7
            cases h7
        · exact .inr (.inl h6)
  · simp only [LH', Bool.or_eq_true] at hj
    rcases hj with hj | hj
    · obtain ⟨c, a, b⟩ := D.lh j hj
      exact ⟨c, a.imp (fun h => List.mem_cons_of_mem _ h) id, b⟩
    · exact ⟨i, .inl (by simp), hj⟩
  · simp only [LH', Bool.or_eq_true]
    rcases List.mem_cons.1 hj with h | h
    · cases h; right; simp [mkpB]
    · exact .inl (D.lhF j h)
  · obtain ⟨a, b⟩ := D.md c hc; exact ⟨by omega, b⟩
  · rcases st1.plc id y hy with ⟨⟨z, hz⟩, e⟩ | e
    · rw [e] at ha hb ⊢
      exact D.pl id z hz ha hb
    · have : S.next ≤ ρ' id := e
      omega
  · rcases hsgc k SS hS with ⟨_, e⟩ | ⟨_, e, _⟩
    · have hh : hid B M vis (B + c) := ⟨by omega, hcM, by
        rw [Nat.add_sub_cancel_left, Nat.testBit_and]
        have : st.made.testBit c = false := hc
        rw [this, Bool.and_false]⟩
      rw [e, hS1 _ hh]
      exact D.no c st.k S hc hcM (sgP_top D)
    · exact D.no c k SS hc hcM e
  · rcases List.mem_cons.1 hc with h | h
    · cases h; omega
    · have := D.sti c w h; omega
  · rcases hsgc k SS hS with ⟨_, e⟩ | ⟨h5, e, h6⟩
    · rw [e]; exact hsig vid _ h
    · rcases hE' _ _ h with c | ⟨_, _, c⟩
      · refine D.sg k SS vid s' ow e c fun j hj => ?_
        have := hk j hj
        subst hj
        rw [hka] at this
        · exact this
        · rcases D.eO _ _ _ c with ⟨_, g, _⟩ | ⟨_, g⟩
          · exact D.mb j g
          · exact D.sti j _ g
      · exfalso
        have := hk i c
        simp only [ka', if_true] at this
        omega
  · rcases List.mem_cons.1 hj with h | h
    · cases h
      refine ⟨q, by rw [hrc, if_pos rfl], ?_⟩
      simp only [ka', if_true]
      rcases hkk with ⟨a, b, _⟩ | ⟨a, b, _⟩
      · exact .inl ⟨a, by rw [hq]; exact b⟩
      · exact .inr ⟨a, by rw [hq]; exact b⟩
    · obtain ⟨q', g1, g2⟩ := D.kaT j h
      have := rcP_lt D.rlen g1
      refine ⟨q', by rw [hrc, if_neg (by omega)]; exact g1, ?_⟩
      rw [hka j this]
      exact g2
  · rcases List.mem_cons.1 g1 with h | h
    · cases h
      rcases List.mem_cons.1 g2 with h | h
      · cases h; omega
      · exact h1 c' w' h
    · rcases List.mem_cons.1 g2 with h' | h'
      · cases h'; have := D.sti c w h; omega
      · exact D.ord c w c' w' h h' hlt hw
  · rw [hrc] at hq'
    split at hq'
    · cases hq'
      refine ⟨by rw [hq]; exact hkle, fun h3 => ?_⟩
      rcases hkk with ⟨a, _⟩ | ⟨_, b, _⟩
      · rw [a] at h3; cases h3
      · show q.k < k'
        omega
    · obtain ⟨a, b⟩ := D.rk c q' hq'
      exact ⟨Nat.le_trans a hkle, fun h3 => Nat.lt_of_lt_of_le (b h3) hkle⟩
  · rw [hrc] at g1 g2
    split at g1
    · split at g2
      · omega
      · have := rcP_lt D.rlen g2; omega
    · split at g2
      · cases g2
        obtain ⟨a, b⟩ := D.rk c q1 g1
        rw [hq]
        exact ⟨a, b⟩
      · exact D.rm c c' q1 q2 hlt g1 g2
  · rcases Nat.lt_or_ge k st.k with h5 | h5
    · obtain ⟨c, q', g1, g2⟩ := D.rw k h5
      refine ⟨c, q', ?_, g2⟩
      rw [hrc, if_neg (by have := rcP_lt D.rlen g1; omega)]
      exact g1
    · rcases hkk with ⟨_, b, _⟩ | ⟨a, b, _⟩
      · have hk' : k < k' := hk
        omega
      · have hk' : k < k' := hk
        exact ⟨i, q, by rw [hrc, if_pos rfl], a, by rw [hq]; omega⟩
  · rw [hrc] at hq'
    split at hq'
    · rename_i e
      cases hq'
      subst e
      rcases hkk with ⟨a, _⟩ | ⟨a, _⟩
      · exact .inr (.inr ⟨true, by simp, .inl a⟩)
      · exact .inr (.inr ⟨true, by simp, .inr ⟨a, rfl⟩⟩)
    · rcases D.rc c q' hq' with g | ⟨g1, g2, ZF, g3, g4, g5⟩ | ⟨w, g1, g2⟩
      · exact .inl g
      · refine .inr (.inl ⟨g1, g2, ZF, fun vid s' hz => ?_, g4, g5⟩)
        obtain ⟨ow, a, b⟩ := g3 vid s' hz
        exact ⟨ow, hE _ _ a, b⟩
      · exact .inr (.inr ⟨w, List.mem_cons_of_mem _ g1, g2⟩)
end
end Go.Pure
end

section
set_option linter.unusedVariables false
set_option linter.unusedSimpArgs false
namespace Go.Pure
open Go Go.Virt

section
variable {C : Ctx} {cf yf : Nat → List Value → VH → Option (Value × VH)} {pcf : CF} {pyf : YF} {K : Loc} {n : Nat} {ops : Array Oper} {B M : Nat} {ρ0 : Nat → Nat} {Z0 : Sig} {h0 : PH} {vh0 : VH}
  {i : Nat} {s : PD} {st : DSt} {E E' : Ent} {LH LH' : Nat → Bool} {ka : Nat → Nat} {ρ ρ' : Nat → Nat} {h h' : PH} {S S' vh' : VH} {rest : List VH} {o : Oper} {x : PV} {v : Value} {sl : PSL} {vsl : SL} {Z' : Sig}

theorem DI.kaLe (D : DI C cf yf K ops B M ρ0 Z0 h0 vh0 i s st E LH ka ρ S rest) {vid : Nat} {s' : SE} {j : Nat} (h : E vid = some (s', some j)) : ka j ≤ st.k := by
  rcases D.eO _ _ _ h with ⟨_, _, c, _⟩ | ⟨_, c⟩
  · omega
  · obtain ⟨q, k1, k2⟩ := D.kaT j c
    have := D.rk j q k1
    rcases k2 with ⟨_, k2⟩ | ⟨k3, k2⟩
    · omega
    · have := this.2 k3; omega
theorem DI.viewSig (D : DI C cf yf K ops B M ρ0 Z0 h0 vh0 i s st E LH ka ρ S rest) (D3 : ∀ i j k, i < ops.size → mkB (Region.before ops) i j = true → mkB (Region.before ops) j k = true → mkB (Region.before ops) i k = true) (hi : i < ops.size) (hBM : B ≤ M) :
    SigIn (zr E (mkB (Region.before ops) i)) (view B M ((Region.before ops).getD i 0 &&& st.made) S) := by
  have hSM : M ≤ S.next := D.sm _ _ (sgP_top D)
  intro vid s' hs
  rw [view_seen (D.seen D3 hi hs (by omega))]
  obtain ⟨ow, a, b⟩ := zr_some.1 hs
  refine D.sg st.k S vid s' ow (sgP_top D) a fun j hj => ?_
  subst hj
  exact D.kaLe a

theorem draw_step (hcf : CfSim C K n pcf cf) (hyf : YfSim C K n pyf yf) (hfc : FrOk cf) (hfy : FrOk yf) (hK0 : KOk K n h0.next) (hd : ∀ o ∈ ops.toList, ∀ d, o.dst = some d → d < n) (hB : B = vh0.next) (hM : M = B + ops.size) (H0 : ∀ i y, h0.get i = some y → ρ0 i < vh0.next)
    (D1 : slotsOk ops.toList (Region.before ops) = true) (D2 : ∀ i j, i < ops.size → mkB (Region.before ops) i j = true → j < i) (D3 : ∀ i j k, i < ops.size → mkB (Region.before ops) i j = true → mkB (Region.before ops) j k = true → mkB (Region.before ops) i k = true)
    (D : DI C cf yf K ops B M ρ0 Z0 h0 vh0 i s st E LH ka ρ S rest) (ho : ops.toList[i]? = some o) {s1 : PD} (he : stepP C pcf pyf K ops.toList (Region.before ops) o i s = some s1) :
    ∃ st1 E1 LH1 ka1 ρ1 S1 rest1, stepD C cf yf B M ops.toList (Region.before ops) o i st = some st1 ∧ DI C cf yf K ops B M ρ0 Z0 h0 vh0 (i + 1) s1 st1 E1 LH1 ka1 ρ1 S1 rest1 := by
  have hi : i < ops.size := by
    obtain ⟨h6, _⟩ := List.getElem?_eq_some_iff.1 ho
    simpa using h6
  have hmem : o ∈ ops.toList := List.mem_of_getElem? ho
  have hSM : M ≤ S.next := D.sm _ _ (sgP_top D)
  have Spk := D.slot.look D1 D3 hi ho
  have hK : KOk K n s.h.next := ⟨hK0.1, Nat.le_trans hK0.2 D.sx.next⟩
  have hle : ∀ (j : Nat), mkB (Region.before ops) i j = true → mkpB (Region.before ops) i j = true := fun j hj => by unfold mkpB; rw [hj]; rfl
  unfold stepP at he
  try dsimp only at he
  unfold stepD
  try dsimp only
  split at he
  · cases he
  · -- not wanted
    rename_i hw
    cases he
    rw [wantedP_sim Spk hw]
    exact ⟨_, E, LH, ka, ρ, S, rest, rfl, D.quiet ho (q := ⟨o, pick st.sl (looksV ops.toList o), .tuple #[], 0, st.k, 0⟩) rfl (.inl rfl) (.tuple [] #[] .nil) (.inl rfl) (.inl rfl)⟩
  · rename_i hw
    rw [wantedP_sim Spk hw]
    try dsimp only
    split at he
    · -- free
      rename_i x hf
      split at he
      · rename_i hsame
        cases he
        obtain ⟨w, hR, hop⟩ := free_sim Spk hf
        rw [free_notmake hf]
        try dsimp only
        rw [D.hs]
        try dsimp only
        have hop1 := hop cf yf (view B M ((Region.before ops).getD i 0 &&& st.made) S) (D.viewSig D3 hi (by omega))
        rw [hop1]
        try dsimp only
        rw [if_pos (by simp [view, restr])]
        have hq := D.quiet ho (q := ⟨o, pick st.sl (looksV ops.toList o), w, 2, st.k, (Region.before ops).getD i 0 &&& st.made⟩) rfl (.inr rfl) (hR.mono (Ext.refl _ _) (zr_le (fun _ _ h => h) hle)) (.inl rfl) (.inr (.inl ⟨same_refl 3 hsame hR, zr E (mkB (Region.before ops) i), fun vid s' hz => zr_some.1 hz, fun j hj hb => by
          rw [Nat.testBit_and, hb, Bool.and_true]
          exact hj, fun vh' hv => hop cf yf vh' hv⟩))
        rw [D.hs] at hq
        exact ⟨_, E, LH, ka, ρ, S, rest, rfl, hq⟩
      · cases he
    · rename_i hf
      split at he
      · -- an object or a literal is made
        rename_i m hm
        obtain ⟨sh, vo, hmk, hmv, _⟩ := makeP_sim Spk hm
        rw [hmv]
        try dsimp only
        have hSget : ∀ k SS, sgP st k = some SS → SS.get (B + i) = none := fun k SS hk => D.no i k SS (by
          cases e : st.made.testBit i with
          | false => rfl
          | true => have := D.mb i e; omega) (by omega) hk
        have hS0 := hSget _ _ (sgP_top D)
        have hpl : ∀ id y, s.h.get id = some y → ρ id ≠ B + i := fun id y hy e => by
          obtain ⟨c, hc, e2⟩ := D.pl id y hy (by omega) (by omega)
          have := (D.md c hc).1
          omega
        have hEn : E (B + i) = none := by
          cases e : E (B + i) with
          | none => rfl
          | some y =>
            exfalso
            obtain ⟨s', ow⟩ := y
            cases ow with
            | none => have := D.eN _ _ e; omega
            | some j =>
              rcases D.eO _ _ _ e with ⟨a, b, _⟩ | ⟨a, _⟩
              · have := D.mb j b; omega
              · rcases a with a | a | ⟨c, hc, a, _⟩
                · omega
                · omega
                · have := (D.md c hc).1; omega
        have hget : ∀ q, q ≠ B + i → (S.put (B + i) (some vo)).get q = S.get q := fun q hq => by simp [VH.put, nbeq hq]
        split at he
        · -- a literal
          rename_i hob
          cases he
          cases hmk with
          | lit g xs vcs ty ht hr hl =>
            let E1 : Ent := fun vid => if vid = B + i then some (⟨vcs, ty.size, true, none⟩, some i) else E vid
            have hE : ∀ vid y, E vid = some y → E1 vid = some y := fun vid y hy => by
              have : vid ≠ B + i := fun e => by subst e; rw [hEn] at hy; cases hy
              simp only [E1, this, if_false]
              exact hy
            have hE' : ∀ vid y, E1 vid = some y → E vid = some y ∨ (vid = B + i ∧ y.2 = some i ∧ (VO.row vcs ty.size true) = .row y.1.cells y.1.e y.1.own) := fun vid y hy => by
              simp only [E1] at hy
              split at hy
              · rename_i e; cases hy; exact .inr ⟨e, rfl, rfl⟩
              · exact .inl hy
            have hp' : HP C ρ (zr E1 LH) (S.put (B + i) (some (.row vcs ty.size true))) s.h := by
              refine ⟨D.hp.lt, D.hp.inj, fun q y hq => ?_, fun vid s' hs => ?_, fun id ver ob hob2 => ?_, D.hp.wr⟩
              · by_cases e : q = B + i
                · subst e; show B + i < S.next; omega
                · rw [hget q e] at hq; exact D.hp.vlt q y hq
              · obtain ⟨ow, a, b⟩ := zr_some.1 hs
                rcases hE' _ _ a with c | ⟨c, _, d⟩
                · rw [hget vid (fun e => by subst e; rw [hEn] at c; cases c)]
                  refine D.hp.sig _ _ (zr_some.2 ⟨ow, c, b⟩)
                · subst c
                  simp [VH.put, d]
              · refine (D.hp.obj id ver ob hob2).mono (Ext.refl _ _) (zr_le hE fun _ h => h) (fun hz => ?_) (fun _ => hget _ (hpl id _ hob2)) (Nat.le_refl _) (Nat.le_refl _)
                have := D.pnone (by omega) hob2 hz
                unfold zr
                simp only [E1, hpl id _ hob2, if_false, this]
            have hlst : RD C (zr E1 (mkpB (Region.before ops) i)) (.lst g xs) (.slice (some ⟨B + i, 0, none⟩) xs.length xs.length) := by
              refine .lst g xs (B + i) 0 xs.length ⟨vcs, ty.size, true, none⟩ vcs ty (zr_some.2 ⟨some i, by simp [E1], fun j hj => by cases hj; simp [mkpB]⟩) rfl (.inl rfl) ht ?_ (hr.mono (zr_le hE hle)) hl
              have hfl := flat_len hl
              rw [readN_def]
              have hvl : vcs.length = xs.length * ty.size := by rw [hr.length]; exact hfl
              refine ⟨?_, .inl (by simp [hvl])⟩
              simp [← hvl]
            have hDm := D.make D2 ho (by omega) (q := ⟨o, pick st.sl (looksV ops.toList o), (Shape.slice xs.length).val (B + i), 1, st.k, 0⟩) rfl rfl (vo := .row vcs ty.size true) (made' := s.made) hE hE' hp' (.d hlst) (Ext.refl _ _) (fun _ h => h) (fun _ h => .inl h) (.inl ⟨rfl, (⟨vcs, ty.size, true, none⟩, some i), by simp [E1]⟩) D.pl (D.sx.lit (by omega) H0)
            exact ⟨_, _, _, _, _, _, _, rfl, hDm⟩
          | _ => simp [Mk.obj] at hob
        · -- an object
          rename_i ob d hob hdst
          cases he
          have hdn := hd o hmem d hdst
          have hlo : K.lo ≤ K.base + d := by have := hK.1; omega
          have hcan : can K (K.base + d) = true := can_base hK.1 d
          let ρ1 : Nat → Nat := fun j => if j = K.base + d then B + i else ρ j
          let LH1 : Nat → Bool := fun j => LH j || mkpB (Region.before ops) i j
          have hext : Ext ρ (vfOf s.h) ρ1 (vfOf (s.h.put (K.base + d) (s.h.stamp (K.base + d)) ob)) := by
            intro j c hj
            obtain ⟨o', hj'⟩ := vfOf_some.1 hj
            by_cases e : j = K.base + d
            · subst e
              have : s.h.stamp (K.base + d) = c + 1 := by simp [PH.stamp, hj']
              exact ⟨s.h.stamp (K.base + d), by simp [vfOf, PH.put], by omega, fun e => by omega⟩
            · exact ⟨c, by simp [vfOf, PH.put, e, hj'], Nat.le_refl _, fun _ => by simp [ρ1, e]⟩
          have hOR : OR C ρ1 (vfOf (s.h.put (K.base + d) (s.h.stamp (K.base + d)) ob)) (zr E LH1) s.h.next (S.put (B + i) (some vo)) (K.base + d) (B + i) ob := by
            have hzn : zr E LH1 (B + i) = none := by unfold zr; rw [hEn]
            have hSp : (S.put (B + i) (some vo)).get (B + i) = some vo := by simp [VH.put]
            have hl2 : Sig.le (zr E (mkB (Region.before ops) i)) (zr E LH1) := zr_le (fun _ _ h => h) fun j hj => by simp only [LH1, hle j hj, Bool.or_true]
            cases hmk with
            | lit => simp [Mk.obj] at hob
            | ptr cs vcs e hr =>
              simp only [Mk.obj, Option.some.injEq] at hob
              subst hob
              exact .cells cs vcs e hzn hSp (hr.mono hext hl2)
            | slice g m xs vcs ty ht hr hl =>
              simp only [Mk.obj, Option.some.injEq] at hob
              subst hob
              exact .row g xs vcs ty ht hzn hSp (hr.mono hl2) hl
            | map =>
              simp only [Mk.obj, Option.some.injEq] at hob
              subst hob
              exact .map [] [] hzn hSp .nil
          have hp' : HP C ρ1 (zr E LH1) (S.put (B + i) (some vo)) (s.h.put (K.base + d) (s.h.stamp (K.base + d)) ob) := by
            refine ⟨fun j y hj => ?_, fun j k y z hj hk e => ?_, fun q y hq => ?_, fun vid s' hs => ?_, fun id ver ob2 hob2 => ?_, D.hp.wr⟩
            · by_cases e : j = K.base + d
              · subst e; exact Nat.lt_of_lt_of_le (Nat.add_lt_add_left hdn K.base) hK.2
              · simp [PH.put, e] at hj; exact D.hp.lt j y hj
            · by_cases e1 : j = K.base + d <;> by_cases e2 : k = K.base + d
              · rw [e1, e2]
              · subst e1
                simp [PH.put, e2] at hk
                simp [ρ1, e2] at e
                exact absurd e.symm (hpl k _ hk)
              · subst e2
                simp [PH.put, e1] at hj
                simp [ρ1, e1] at e
                exact absurd e (hpl j _ hj)
              · simp [PH.put, e1, e2] at hj hk
                simp [ρ1, e1, e2] at e
                exact D.hp.inj _ _ _ _ hj hk e
            · by_cases e : q = B + i
              · subst e; show B + i < S.next; omega
              · rw [hget q e] at hq; exact D.hp.vlt q y hq
            · obtain ⟨ow, a, b⟩ := zr_some.1 hs
              rw [hget vid (fun e => by subst e; rw [hEn] at a; cases a)]
              refine D.sg st.k S vid s' ow (sgP_top D) a fun j hj => ?_
              subst hj
              exact D.kaLe a
            · by_cases e : id = K.base + d
              · subst e
                simp [PH.put] at hob2
                obtain ⟨rfl, rfl⟩ := hob2
                simp only [ρ1, if_true]
                exact hOR
              · simp [PH.put, e] at hob2
                have h1 := D.hp.obj id ver ob2 hob2
                simp only [ρ1, e, if_false]
                refine h1.mono hext (zr_le (fun _ _ h => h) fun j hj => by simp only [LH1, hj, Bool.true_or]) (fun hz => ?_) (fun _ => hget _ (hpl id _ hob2)) (Nat.le_refl _) (Nat.le_refl _)
                have := D.pnone (by omega) hob2 hz
                unfold zr
                rw [this]
          have hval : R C ρ1 (vfOf (s.h.put (K.base + d) (s.h.stamp (K.base + d)) ob)) (zr E (mkpB (Region.before ops) i)) (m.val (K.base + d) (s.h.stamp (K.base + d))) (sh.val (B + i)) := by
            cases hmk with
            | lit => simp [Mk.obj] at hob
            | ptr cs vcs e hr => exact .ptr _ _ 0 _ ⟨B + i, 0, none⟩ new_cur (Nat.le_refl _) rfl fun _ => by simp [ρ1]
            | slice g m xs vcs ty ht hr hl => exact own_new ht _
            | map => exact .map _ _ _ (B + i) new_cur (Nat.le_refl _) fun _ => by simp [ρ1]
          have hDm := D.make D2 ho (by omega) (q := ⟨o, pick st.sl (looksV ops.toList o), sh.val (B + i), 1, st.k, 0⟩) rfl rfl (vo := vo) (made' := i :: s.made) (fun _ _ h => h) (fun _ _ h => .inl h) hp' hval hext (fun j hj => by simp only [LH1, hj, Bool.true_or]) (fun j hj => by
              simp only [LH1, Bool.or_eq_true] at hj
              exact hj.imp id fun h => ⟨by simp, h⟩) (.inr ⟨rfl, hEn⟩) (fun id y hy ha hb => by
              by_cases e : id = K.base + d
              · subst e
                simp only [ρ1, if_true]
                exact ⟨i, by simp, rfl⟩
              · simp [PH.put, e] at hy
                simp only [ρ1, e, if_false] at ha hb ⊢
                obtain ⟨c, hc, e2⟩ := D.pl id y hy ha hb
                exact ⟨c, List.mem_cons_of_mem _ hc, e2⟩) (D.sx.make hext hcan hlo (by omega) H0)
          have e : putP s.sl o.dst (m.val (K.base + d) (s.h.stamp (K.base + d))) = s.sl.put d (m.val (K.base + d) (s.h.stamp (K.base + d))) := by rw [hdst]; rfl
          rw [e] at hDm
          exact ⟨_, _, _, _, _, _, _, rfl, hDm⟩
        · cases he
      · -- an operation on objects
        split at he
        · rename_i hchk
          rw [Bool.and_eq_true] at hchk
          have hchk2 : ∀ c ∈ s.made, mkB (Region.before ops) i c = true := fun c hc => List.all_eq_true.1 hchk.2 c hc
          have hchkA : ∀ c w, (c, w) ∈ s.st → (w = true ∨ writesP o = true) → mkB (Region.before ops) i c = true := fun c w hc hw => by
            have := List.all_eq_true.1 hchk.1 _ hc
            try dsimp only at this
            rw [Bool.or_eq_true] at this
            rcases this with h1 | h1
            · rw [Bool.and_eq_true, Bool.not_eq_true', Bool.not_eq_true'] at h1
              rcases hw with hw | hw
              · rw [hw] at h1; cases h1.1
              · rw [hw] at h1; cases h1.2
            · exact h1
          have hchk1 : ∀ c, (c, true) ∈ s.st → mkB (Region.before ops) i c = true := fun c hc => hchkA c true hc (.inl rfl)
          have HV := D.viewHP D3 hi (by omega) hchk1 hchk2
          split at he
          · rename_i x h' hst
            cases he
            rw [state_notmake hst]
            try dsimp only
            rw [D.hs]
            try dsimp only
            cases hwr : writesP o with
            | false =>
              obtain ⟨hh, w, hop, hR⟩ := read_sim (cf := cf) (yf := yf) HV Spk hwr hst
              rw [hop]
              try dsimp only
              rw [if_pos (by simp [view, restr])]
              have hh' : h' = s.h := hh
              subst hh'
              have hq := D.quiet ho (q := ⟨o, pick st.sl (looksV ops.toList o), w, 2, st.k, (Region.before ops).getD i 0 &&& st.made⟩) rfl (.inr rfl) (hR.mono (Ext.refl _ _) (zr_le (fun _ _ h => h) hle)) (.inr ⟨rfl, hchk1⟩) (.inr (.inr (by simp)))
              rw [D.hs] at hq
              exact ⟨_, E, LH, ka, ρ, S, rest, rfl, hq⟩
            | true =>
              obtain ⟨w, vh1, ρ1, Z1, hop, hR, st1⟩ := stateP_sim hcf hyf HV Spk hK (hd o hmem) hst
              rw [hop]
              try dsimp only
              have hfr := VFr.op hfc hfy hop
              by_cases hsame : vh1.next = S.next ∧ vh1.wr = S.next
              · rw [if_pos (by simp [hsame.1, hsame.2])]
                have hg : ∀ q, ¬ hid B M ((Region.before ops).getD i 0 &&& st.made) q → S.get q = vh1.get q := by
                  intro q hq
                  rcases Nat.lt_or_ge q S.next with h5 | h5
                  · rw [hfr.2.2 q h5 (by rw [hsame.2]; exact h5), view_seen hq]
                  · cases e1 : S.get q with
                    | some y => have := D.hp.vlt q y e1; omega
                    | none =>
                      cases e2 : vh1.get q with
                      | none => rfl
                      | some y => have := st1.hp.vlt q y e2; omega
                obtain ⟨E1, LH1, ka1, hDw⟩ := D.write D3 hi (by omega) hB H0 ho (fun c w hc => hchkA c w hc (.inr hwr)) hchk2 st1 hR (S' := S) (fun _ _ => rfl) hg hsame.1.symm (Nat.le_refl _) (fun q hq hw => by omega)
                  (q := ⟨o, pick st.sl (looksV ops.toList o), w, 2, st.k, (Region.before ops).getD i 0 &&& st.made⟩) rfl (.inl ⟨rfl, rfl, rfl, rfl⟩)
                exact ⟨_, E1, LH1, ka1, ρ1, S, rest, rfl, hDw⟩
              · rw [if_neg (by
                  intro hh
                  simp only [Bool.and_eq_true, Nat.beq_eq] at hh
                  exact hsame hh)]
                obtain ⟨E1, LH1, ka1, hDw⟩ := D.write D3 hi (by omega) hB H0 ho (fun c w hc => hchkA c w hc (.inr hwr)) hchk2 st1 hR (S' := over B M ((Region.before ops).getD i 0 &&& st.made) S vh1) (fun q hq => over_get.1 hq) (fun q hq => over_get.2 hq) rfl (Nat.min_le_left _ _) (fun q hq hw => Nat.le_trans (Nat.min_le_right _ _) hw)
                  (q := ⟨o, pick st.sl (looksV ops.toList o), w, 3, st.k, (Region.before ops).getD i 0 &&& st.made⟩) rfl (.inr ⟨rfl, rfl, rfl⟩)
                exact ⟨_, E1, LH1, ka1, ρ1, _, _, rfl, hDw⟩
          · cases he
        · cases he
end
end Go.Pure
end

section
set_option linter.unusedVariables false
set_option linter.unusedSimpArgs false
namespace Go.Pure
open Go Go.Virt

section
variable {C : Ctx} {cf yf : Nat → List Value → VH → Option (Value × VH)} {pcf : CF} {pyf : YF} {K : Loc} {n : Nat} {ops : Array Oper} {B M : Nat} {ρ0 : Nat → Nat} {Z0 : Sig} {h0 : PH} {vh0 : VH}
  {i : Nat} {s : PD} {st : DSt} {E E' : Ent} {LH LH' : Nat → Bool} {ka : Nat → Nat} {ρ ρ' : Nat → Nat} {h h' : PH} {S S' vh' : VH} {rest : List VH} {o : Oper} {x : PV} {v : Value} {sl : PSL} {vsl : SL} {Z' : Sig}

theorem draw_pass (hcf : CfSim C K n pcf cf) (hyf : YfSim C K n pyf yf) (hfc : FrOk cf) (hfy : FrOk yf) (hK0 : KOk K n h0.next) (hd : ∀ o ∈ ops.toList, ∀ d, o.dst = some d → d < n) (hB : B = vh0.next) (hM : M = B + ops.size) (H0 : ∀ i y, h0.get i = some y → ρ0 i < vh0.next)
    (D1 : slotsOk ops.toList (Region.before ops) = true) (D2 : ∀ i j, i < ops.size → mkB (Region.before ops) i j = true → j < i) (D3 : ∀ i j k, i < ops.size → mkB (Region.before ops) i j = true → mkB (Region.before ops) j k = true → mkB (Region.before ops) i k = true) :
    ∀ (l : List Oper) {i : Nat} {s : PD} {st : DSt} {E : Ent} {LH : Nat → Bool} {ka : Nat → Nat} {ρ : Nat → Nat} {S : VH} {rest : List VH} {s1 : PD}, ops.toList.drop i = l → DI C cf yf K ops B M ρ0 Z0 h0 vh0 i s st E LH ka ρ S rest → passP C pcf pyf K ops.toList (Region.before ops) l i s = some s1 →
    ∃ st1 E1 LH1 ka1 ρ1 S1 rest1, passD C cf yf B M ops.toList (Region.before ops) l i st = some st1 ∧ DI C cf yf K ops B M ρ0 Z0 h0 vh0 (i + l.length) s1 st1 E1 LH1 ka1 ρ1 S1 rest1
  | [], i, s, st, E, LH, ka, ρ, S, rest, s1, hl, D, he => by
    simp only [passP, Option.some.injEq] at he
    subst he
    exact ⟨st, E, LH, ka, ρ, S, rest, rfl, D⟩
  | o :: l, i, s, st, E, LH, ka, ρ, S, rest, s1, hl, D, he => by
    have ho : ops.toList[i]? = some o := by
      have : (ops.toList.drop i)[0]? = some o := by rw [hl]; rfl
      simpa using this
    simp only [passP] at he
    split at he
    · rename_i s2 hs
      obtain ⟨st2, E2, LH2, ka2, ρ2, S2, rest2, h1, D2'⟩ := draw_step hcf hyf hfc hfy hK0 hd hB hM H0 D1 D2 D3 D ho hs
      obtain ⟨st3, E3, LH3, ka3, ρ3, S3, rest3, h2, D3'⟩ := draw_pass hcf hyf hfc hfy hK0 hd hB hM H0 D1 D2 D3 l (by
        rw [← List.tail_drop, hl]; rfl) D2' he
      refine ⟨st3, E3, LH3, ka3, ρ3, S3, rest3, by simp only [passD, h1, h2], ?_⟩
      rw [List.length_cons, Nat.add_comm l.length 1, ← Nat.add_assoc]
      exact D3'
    · cases he

theorem allowed_spec {masks : Array Nat} {recs : List Rec} {c0 k : Nat} (h : allowed masks recs.zipIdx c0 k = true) {c : Nat} {q : Rec} (hq : recs[c]? = some q) (h3 : q.kind = 3) : (mkB masks c0 c = true → q.k < k) ∧ (mkB masks c c0 = true → k ≤ q.k) := by
  have h1 := List.all_eq_true.1 h _ (mem_zip hq)
  try dsimp only at h1
  rw [h3] at h1
  simp only [Nat.beq_refl, Bool.not_true, Bool.false_or, Bool.and_eq_true, Bool.not_eq_true'] at h1
  constructor
  · intro hm
    have := h1.1
    unfold mkB at hm
    rw [hm, Bool.true_and] at this
    rcases Nat.lt_or_ge q.k k with h5 | h5
    · exact h5
    · rw [Nat.ble_eq.mpr h5] at this; cases this
  · intro hm
    have := h1.2
    unfold mkB at hm
    rw [hm, Bool.true_and] at this
    rcases Nat.lt_or_ge q.k k with h5 | h5
    · rw [Nat.blt_eq.mpr h5] at this; cases this
    · exact h5

theorem draw_reads (hBM : B ≤ M) (D2 : ∀ i j, i < ops.size → mkB (Region.before ops) i j = true → j < i) (D3 : ∀ i j k, i < ops.size → mkB (Region.before ops) i j = true → mkB (Region.before ops) j k = true → mkB (Region.before ops) i k = true) (D : DI C cf yf K ops B M ρ0 Z0 h0 vh0 ops.size s st E LH ka ρ S rest) :
    readsOk C cf yf B M (Region.before ops) st.recs.reverse.zipIdx st.hs.reverse.zipIdx = true := by
  refine List.all_eq_true.2 ?_
  rintro ⟨r, c0⟩ hr
  rw [List.mem_zipIdx_iff_getElem?] at hr
  try dsimp only at hr ⊢
  rw [Bool.or_eq_true]
  by_cases hk2 : r.kind = 2
  · right
    refine List.all_eq_true.2 ?_
    rintro ⟨SS, k⟩ hS
    rw [List.mem_zipIdx_iff_getElem?] at hS
    try dsimp only at hS ⊢
    rw [Bool.or_eq_true, Bool.or_eq_true]
    by_cases hkr : k = r.k
    · left; left; rw [hkr]; simp
    · cases hal : allowed (Region.before ops) st.recs.reverse.zipIdx c0 k with
      | false => left; right; rfl
      | true =>
        right
        have hrr : rcP st c0 = some r := hr
        have hsg : sgP st k = some SS := hS
        have hc0 : c0 < ops.size := rcP_lt D.rlen hrr
        have hkle := sgP_le D hsg
        rcases D.rc c0 r hrr with h | ⟨_, hsame, ZF, h3, h4, h5⟩ | ⟨w, h1, h2⟩
        · rcases h with h | h <;> rw [h] at hk2 <;> cases hk2
        · -- looks at no object
          have hsi : SigIn ZF (view B M r.vis SS) := by
            intro vid s' hz
            obtain ⟨ow, a, b⟩ := h3 vid s' hz
            have hka : ∀ j, ow = some j → ka j ≤ k := by
              intro j hj
              subst hj
              rcases D.eO _ _ _ a with ⟨_, _, e, _⟩ | ⟨_, e⟩
              · omega
              · obtain ⟨q, k1, k2⟩ := D.kaT j e
                rcases k2 with ⟨k3, k2⟩ | ⟨k3, k2⟩
                · -- what was kept by the virtual run stands behind all earlier writers
                  rcases Nat.eq_zero_or_pos q.k with h0' | h0'
                  · omega
                  · obtain ⟨c, q2, g1, g2, g3⟩ := D.rw (q.k - 1) (by have := (D.rk j q k1).1; omega)
                    have hcj : c < j := by
                      rcases Nat.lt_trichotomy c j with h | h | h
                      · exact h
                      · subst h; rw [k1] at g1; cases g1; omega
                      · have := (D.rm j c q q2 h k1 g1).1; omega
                    have hcw : (c, true) ∈ s.st := by
                      rcases D.rc c q2 g1 with h | ⟨h, _⟩ | ⟨w2, h, h'⟩
                      · rcases h with h | h <;> rw [h] at g2 <;> cases g2
                      · rw [h] at g2; cases g2
                      · rcases h' with h' | ⟨_, h'⟩
                        · rw [h'] at g2; cases g2
                        · rw [h'] at h; exact h
                    have := D3 c0 j c hc0 (b j rfl) (D.ord j true c true e hcw hcj (.inl rfl))
                    have := (allowed_spec hal g1 g2).1 this
                    omega
                · have := (allowed_spec hal k1 k3).1 (b j rfl)
                  omega
            have hget := D.sg k SS vid s' ow hsg a hka
            rw [view_seen]
            · exact hget
            · rintro ⟨x1, x2, x3⟩
              cases ow with
              | none => have := D.eN _ _ a; omega
              | some j =>
                have hbit : ∀ g, mkB (Region.before ops) c0 g = true → st.made.testBit g = true → vid = B + g → False := fun g hg1 hg2 hg3 => by
                  rw [hg3, Nat.add_sub_cancel_left, h4 g hg1 hg2] at x3
                  cases x3
                rcases D.eO _ _ _ a with ⟨e1, e2, _⟩ | ⟨e1, e2⟩
                · exact hbit j (b j rfl) e2 e1
                · rcases e1 with e1 | e1 | ⟨g, g1, g2, g3⟩
                  · omega
                  · omega
                  · exact hbit g (D3 c0 j g hc0 (b j rfl) g3) (D.md g g1).2 g2
          rw [h5 _ hsi]
          simp only [sameAns, hsame, Bool.true_and, Bool.and_eq_true, Nat.beq_eq]
          exact ⟨rfl, rfl⟩
        · -- an operation on objects stands at one place only
          exfalso
          rcases Nat.lt_or_ge k r.k with h5 | h5
          · obtain ⟨c, q2, g1, g2, g3⟩ := D.rw k (by have := (D.rk c0 r hrr).1; omega)
            have hcj : c < c0 := by
              rcases Nat.lt_trichotomy c c0 with h | h | h
              · exact h
              · subst h; rw [hrr] at g1; cases g1; omega
              · have := (D.rm c0 c r q2 h hrr g1).1; omega
            have hcw : (c, true) ∈ s.st := by
              rcases D.rc c q2 g1 with h | ⟨h, _⟩ | ⟨w2, h, h'⟩
              · rcases h with h | h <;> rw [h] at g2 <;> cases g2
              · rw [h] at g2; cases g2
              · rcases h' with h' | ⟨_, h'⟩
                · rw [h'] at g2; cases g2
                · rw [h'] at h; exact h
            have := (allowed_spec hal g1 g2).1 (D.ord c0 w c true h1 hcw hcj (.inr rfl))
            omega
          · obtain ⟨c, q2, g1, g2, g3⟩ := D.rw r.k (by omega)
            have hcj : c0 < c := by
              rcases Nat.lt_trichotomy c0 c with h | h | h
              · exact h
              · subst h; rw [hrr] at g1; cases g1; rw [hk2] at g2; cases g2
              · have := (D.rm c c0 q2 r h g1 hrr).2 g2; omega
            have hcw : (c, true) ∈ s.st := by
              rcases D.rc c q2 g1 with h | ⟨h, _⟩ | ⟨w2, h, h'⟩
              · rcases h with h | h <;> rw [h] at g2 <;> cases g2
              · rw [h] at g2; cases g2
              · rcases h' with h' | ⟨_, h'⟩
                · rw [h'] at g2; cases g2
                · rw [h'] at h; exact h
            have := (allowed_spec hal g1 g2).2 (D.ord c true c0 w hcw h1 hcj (.inl rfl))
            omega
  · left
    rw [nbeq hk2]; rfl

theorem draw_writers (D : DI C cf yf K ops B M ρ0 Z0 h0 vh0 ops.size s st E LH ka ρ S rest) : writersOk (Region.before ops) st.recs.reverse.zipIdx = true := by
  have hw : ∀ c q, rcP st c = some q → q.kind = 3 → (c, true) ∈ s.st := by
    intro c q2 g1 g2
    rcases D.rc c q2 g1 with h | ⟨h, _⟩ | ⟨w2, h, h'⟩
    · rcases h with h | h <;> rw [h] at g2 <;> cases g2
    · rw [h] at g2; cases g2
    · rcases h' with h' | ⟨_, h'⟩
      · rw [h'] at g2; cases g2
      · rw [h'] at h; exact h
  refine List.all_eq_true.2 ?_
  rintro ⟨r, a⟩ hr
  rw [List.mem_zipIdx_iff_getElem?] at hr
  try dsimp only at hr ⊢
  by_cases h3 : r.kind = 3
  · rw [Bool.or_eq_true]
    right
    refine List.all_eq_true.2 ?_
    rintro ⟨q, b⟩ hq
    rw [List.mem_zipIdx_iff_getElem?] at hq
    try dsimp only at hq ⊢
    by_cases h4 : q.kind = 3
    · have hr' : rcP st a = some r := hr
      have hq' : rcP st b = some q := hq
      have hwa := hw a r hr' h3
      have hwb := hw b q hq' h4
      rcases Nat.lt_trichotomy a b with h | h | h
      · have h5 := (D.rm a b r q h hr' hq').2 h3
        have h6 := D.ord b true a true hwb hwa h (.inl rfl)
        unfold mkB at h6
        rw [Nat.blt_eq.mpr h5, h6]
        simp
      · subst h; simp
      · have h5 := (D.rm b a q r h hq' hr').2 h4
        have h6 := D.ord a true b true hwa hwb h (.inl rfl)
        unfold mkB at h6
        rw [Nat.blt_eq.mpr h5, h6]
        simp
    · rw [nbeq h4]; simp
  · rw [nbeq h3]; rfl

theorem draw_sim : DrawSim C := by
  intro K n pcf pyf cf yf hcf hyf hfc hfy ops psl vsl h vh ρ Z q H S hK hd hok he
  unfold drawP at he
  · rw [Option.map_eq_some_iff] at he
    obtain ⟨s1, hp, rfl⟩ := he
    obtain ⟨D1, D2, D3⟩ := drawOk_spec hok
    have hM : vh.next + ops.toList.length = vh.next + ops.size := by simp
    let E0 : Ent := fun vid => (Z vid).map fun s => (s, none)
    have hzr : ∀ L, zr E0 L = Z := by
      intro L
      funext vid
      unfold zr
      simp only [E0]
      cases Z vid <;> rfl
    have hS0 : HP C ρ Z { vh with next := vh.next + ops.toList.length } h := H.sub rfl H.lt rfl (by simp) (by have := H.wr; simp; omega)
    have hE0 : ∀ vid s' ow, E0 vid = some (s', ow) → Z vid = some s' ∧ ow = none := by
      intro vid s' ow he
      simp only [E0, Option.map_eq_some_iff, Prod.mk.injEq] at he
      obtain ⟨a, b, c, d⟩ := he
      exact ⟨by rw [b, c], d.symm⟩
    have D0 : DI C cf yf K ops vh.next (vh.next + ops.toList.length) ρ Z h vh 0 { sl := psl, h := h, st := [], made := [] } { sl := vsl, recs := [], hs := [{ vh with next := vh.next + ops.toList.length }], k := 0, made := 0 } E0 (fun _ => false) (fun _ => 0) ρ { vh with next := vh.next + ops.toList.length } [] := by
      refine ⟨rfl, rfl, rfl, fun k SS hk => ?_, by rw [hzr]; exact hS0, fun vid s' hz => by simp only [E0, hz, Option.map_some], fun vid s' he => ?_, fun vid s' j he => ?_, fun t x hx => ?_, fun j hj => (by cases hj), fun j hj => (by simp at hj), fun c hc => (by simp at hc), fun id y hy ha hb => ?_, fun c hc => (by simp at hc), fun c hc => (by simp at hc), fun c k SS _ hc hk => ?_, fun c w hc => (by simp at hc), fun k SS vid s' ow hk he _ => ?_, fun j hj => (by simp at hj), fun c w c' w' hc => (by simp at hc), fun c q' hq => (by simp [rcP] at hq), fun c c' q1 q2 _ hq => (by simp [rcP] at hq), fun k hk => (by cases hk), fun c q' hq => (by simp [rcP] at hq), ?_⟩
      · unfold sgP at hk
        have := List.mem_of_getElem? hk
        simp at this
        subst this
        exact Nat.le_refl _
      · exact H.vlt _ _ (H.sig _ _ (hE0 _ _ _ he).1)
      · cases (hE0 _ _ _ he).2
      · obtain ⟨v, h1, h2⟩ := S t x hx
        exact ⟨v, _, h1, by rw [hzr]; exact h2, .inr ⟨rfl, fun j o hj => by omega⟩⟩
      · have := H.rho_lt hy; omega
      · unfold sgP at hk
        have := List.mem_of_getElem? hk
        simp at this
        subst this
        cases e : vh.get (vh.next + c) with
        | none => rfl
        | some y => have := H.vlt _ _ e; omega
      · unfold sgP at hk
        have := List.mem_of_getElem? hk
        simp at this
        subst this
        exact H.sig _ _ (hE0 _ _ _ he).1
      · exact ⟨Ext.refl _ _, Nat.le_refl _, Nat.le_refl _, fun _ _ => rfl, fun i ver o _ ho => .inl ho, fun i x hx => .inl ⟨⟨x, hx⟩, rfl⟩, fun _ _ _ _ => rfl, fun q _ hq _ => hq⟩
    obtain ⟨st1, E1, LH1, ka1, ρ1, S1, rest1, hpd, DE⟩ := draw_pass hcf hyf hfc hfy hK hd rfl hM (fun i y hy => H.rho_lt hy) D1 D2 D3 ops.toList rfl D0 hp
    have DE' : DI C cf yf K ops vh.next (vh.next + ops.toList.length) ρ Z h vh ops.size s1 st1 E1 LH1 ka1 ρ1 S1 rest1 := by
      have : 0 + ops.toList.length = ops.size := by simp
      rw [this] at DE
      exact DE
    have hSM := DE'.sm _ _ (sgP_top DE')
    have htop : Sig.le (zr E1 LH1) (zr E1 fun _ => true) := zr_le (fun _ _ h => h) fun _ _ => rfl
    have hsgT : SigIn (zr E1 fun _ => true) S1 := by
      intro vid s' hz
      obtain ⟨ow, a, _⟩ := zr_some.1 hz
      refine DE'.sg _ _ vid s' ow (sgP_top DE') a fun j hj => ?_
      subst hj
      exact DE'.kaLe a
    have hpT : HP C ρ1 (zr E1 fun _ => true) S1 s1.h := by
      refine ⟨DE'.hp.lt, DE'.hp.inj, DE'.hp.vlt, hsgT, fun id ver ob hob => ?_, DE'.hp.wr⟩
      refine (DE'.hp.obj id ver ob hob).mono (Ext.refl _ _) htop (fun hz => ?_) (fun _ => rfl) (Nat.le_refl _) (Nat.le_refl _)
      have := DE'.pnone (by omega) hob hz
      unfold zr
      rw [this]
    refine ⟨st1.sl, S1, ρ1, zr E1 fun _ => true, ?_, fun t x hx => ?_, ⟨hpT, DE'.sx.ext, fun vid s' hz => zr_some.2 ⟨none, DE'.e0 vid s' hz, fun j e => by cases e⟩, DE'.sx.next, by omega, DE'.sx.wr, DE'.sx.keep, DE'.sx.same, DE'.sx.plc, DE'.sx.vkeep, DE'.sx.vnone⟩⟩
    · unfold drawV
      try dsimp only
      rw [hpd]
      try dsimp only
      rw [DE'.hs]
      try dsimp only
      have hr := draw_reads (by omega) D2 D3 DE'
      have hw := draw_writers DE'
      rw [DE'.hs] at hr
      rw [if_pos]
      simp only [Bool.and_eq_true]
      exact ⟨⟨⟨Nat.ble_eq.mpr H.wr, D1⟩, hw⟩, hr⟩
    · obtain ⟨v, L, h1, h2, _⟩ := DE'.slot t x hx
      exact ⟨v, h1, h2.mono (Ext.refl _ _) (zr_le (fun _ _ h => h) fun _ _ => rfl)⟩
end

/-- A plain call says what the virtual call answers. -/
theorem call_sim' {C : Ctx} (hC : COkP C) (n : Nat) (K : Loc) (m : Nat) : CfSim C K m (fun K => Pure.call C n K) (Virt.call C n) := callF_sim hC (exec_sim hC draw_sim n true) K m
end Go.Pure
end
