/- Rows that are written no more; slices as plain lists. -/
import Derived.Test.YtabcdhcpilpojaaGreatDoorPF
import Derived.Test.YtabcdhcpilpojaaGreatDoorPE
import Derived.Test.YtabcdhcpilpojaaGreatDoorVB
section
set_option linter.unusedVariables false
set_option linter.unusedSimpArgs false
namespace Go.Pure
open Go Go.Virt

section
variable {C : Ctx} {Z Z' : Sig} {ρ ρ' : Nat → Nat} {vf vf' : Nat → Option Nat} {h h' : PH} {vh vh' : VH} {K : Loc} {n : Nat} {psl : PSL} {vsl : SL} {o : Oper} {x : PV} {all : List Oper}

theorem freeze_next : ∀ (ids : List Nat) (h : PH), (h.freeze ids).next = h.next
  | [], h => rfl
  | i :: r, h => by
    simp only [PH.freeze]
    split
    · rw [freeze_next r]; rfl
    · exact freeze_next r h
theorem freeze_get : ∀ (ids : List Nat) (h : PH) (j : Nat), (h.freeze ids).get j = (match h.get j with
    | some (ver, .row g own xs) => if j ∈ ids then some (ver, .row g false xs) else some (ver, .row g own xs)
    | o => o)
  | [], h, j => by
    simp only [PH.freeze, List.not_mem_nil, if_false]
    split <;> simp_all
  | i :: r, h, j => by
    simp only [PH.freeze]
    split
    · rename_i ver g own xs hi
      rw [freeze_get r]
      by_cases e : j = i
      · subst e
        simp only [PH.put, if_true, hi, List.mem_cons, true_or]
        split <;> rfl
      · simp only [PH.put, e, if_false, List.mem_cons, false_or]
    · rename_i hne
      rw [freeze_get r]
      by_cases e : j = i
      · subst e
        split
        · rename_i ver g own xs hj
          exact absurd hj (hne _ _ _ _)
        · rfl
      · simp only [List.mem_cons, e, false_or]
theorem freeze_vf (ids : List Nat) (h : PH) : vfOf (h.freeze ids) = vfOf h := by
  funext j
  unfold vfOf
  rw [freeze_get]
  split
  · rename_i ver g own xs hj
    rw [hj]
    split <;> rfl
  · rfl

/-- Rows frozen: for good, or lent (bt). -/
structure Frz (C : Ctx) (bt : Bool) (ρ : Nat → Nat) (Z : Sig) (h : PH) (vh : VH) (ids : List Nat) (Z' : Sig) : Prop where
  hp : HP C ρ Z' vh (h.freeze ids)
  le : ∀ vid s, Z vid = some s → Z' vid = some s
  new : ∀ vid s, Z' vid = some s → Z vid = some s ∨ (Z vid = none ∧ ∃ i ∈ ids, ∃ ver g xs, h.get i = some (ver, .row g true xs) ∧ vid = ρ i ∧ s.tag = if bt then some g else none)

theorem Frz.sig {bt : Bool} {ids : List Nat} (f : Frz C bt ρ Z h vh ids Z') : Z.le Z' := f.le

theorem frz1 (bt : Bool) (H : HP C ρ Z vh h) {i ver g : Nat} {own : Bool} {xs : List PV} (hi : h.get i = some (ver, .row g own xs)) :
    ∃ Z', HP C ρ Z' vh (h.put i ver (.row g false xs)) ∧ (∀ vid s, Z vid = some s → Z' vid = some s) ∧ ∀ vid s, Z' vid = some s → Z vid = some s ∨ (Z vid = none ∧ own = true ∧ vid = ρ i ∧ s.tag = if bt then some g else none) := by
  have ho := H.obj _ _ _ hi
  have hvf : vfOf (h.put i ver (.row g false xs)) = vfOf h := by
    funext j
    unfold vfOf PH.put
    by_cases e : j = i
    · subst e; simp [hi]
    · simp [e]
  cases own with
  | false =>
    have : h.put i ver (.row g false xs) = h := by
      unfold PH.put
      have : (fun j => if j = i then some (ver, PO.row g false xs) else h.get j) = h.get := by
        funext j
        by_cases e : j = i
        · subst e; simp [hi]
        · simp [e]
      rw [this]
    rw [this]
    exact ⟨Z, H, fun _ _ h => h, fun _ _ h => .inl h⟩
  | true =>
    cases ho with
    | row g xs vcs ty ht hz hg hr hl =>
      let Z1 : Sig := fun q => if q = ρ i then some ⟨vcs, ty.size, true, if bt then some g else none⟩ else Z q
      have hle : ∀ vid s, Z vid = some s → Z1 vid = some s := fun vid s hs => by
        have : vid ≠ ρ i := fun e => by rw [e, hz] at hs; cases hs
        simp [Z1, this, hs]
      have hsle : Z.le Z1 := hle
      refine ⟨Z1, ⟨?_, ?_, H.vlt, ?_, ?_, H.wr⟩, hle, ?_⟩
      · intro j x hj
        by_cases e : j = i
        · subst e; exact H.lt _ _ hi
        · simp [PH.put, e] at hj; exact H.lt _ _ hj
      · intro j k x y hj hk e
        by_cases e1 : j = i <;> by_cases e2 : k = i
        · rw [e1, e2]
        · subst e1; simp [PH.put, e2] at hk; exact H.inj _ _ _ _ hi hk e
        · subst e2; simp [PH.put, e1] at hj; exact H.inj _ _ _ _ hj hi e
        · simp [PH.put, e1, e2] at hj hk; exact H.inj _ _ _ _ hj hk e
      · intro vid s hs
        by_cases e : vid = ρ i
        · simp only [Z1, e, if_true, Option.some.injEq] at hs
          subst hs
          rw [e]; exact hg
        · simp only [Z1, e, if_false] at hs
          exact H.sig _ _ hs
      · intro j w ob hj
        rw [hvf]
        by_cases e : j = i
        · subst e
          simp only [PH.put, if_true, Option.some.injEq, Prod.mk.injEq] at hj
          obtain ⟨rfl, rfl⟩ := hj
          exact .frozen g xs ⟨vcs, ty.size, true, if bt then some g else none⟩ ty ht (by simp [Z1]) rfl (by cases bt <;> simp) (hr.mono hsle) hl
        · simp only [PH.put, e, if_false] at hj
          have hne : ρ j ≠ ρ i := fun h2 => e (H.inj _ _ _ _ hj hi h2)
          exact (H.obj _ _ _ hj).mono (Ext.refl _ _) hsle (fun hq => by simp [Z1, hne, hq]) (fun _ => rfl) (Nat.le_refl _) (Nat.le_refl _)
      · intro vid s hs
        by_cases e : vid = ρ i
        · simp only [Z1, e, if_true, Option.some.injEq] at hs
          subst hs
          rw [e]
          exact .inr ⟨hz, rfl, rfl, rfl⟩
        · simp only [Z1, e, if_false] at hs
          exact .inl hs

theorem frz (bt : Bool) : ∀ (ids : List Nat) {Z : Sig} {h : PH}, HP C ρ Z vh h → ∃ Z', Frz C bt ρ Z h vh ids Z'
  | [], Z, h, H => ⟨Z, H, fun _ _ h => h, fun _ _ h => .inl h⟩
  | i :: r, Z, h, H => by
    by_cases hi : ∃ ver g own xs, h.get i = some (ver, .row g own xs)
    · obtain ⟨ver, g, own, xs, hi⟩ := hi
      obtain ⟨Z1, H1, l1, n1⟩ := frz1 bt H hi
      obtain ⟨Z2, f2⟩ := frz bt r H1
      refine ⟨Z2, by simp only [PH.freeze, hi]; exact f2.hp, fun vid s hs => f2.le _ _ (l1 _ _ hs), fun vid s hs => ?_⟩
      rcases f2.new _ _ hs with h1 | ⟨h1, j, hj, ver2, g2, xs2, hg, e, ht⟩
      · rcases n1 _ _ h1 with h2 | ⟨h2, h3, h4, h5⟩
        · exact .inl h2
        · subst h3
          exact .inr ⟨h2, i, by simp, ver, g, xs, hi, h4, h5⟩
      · have hji : j ≠ i := fun e => by subst e; simp [PH.put] at hg
        simp only [PH.put, hji, if_false] at hg
        refine .inr ⟨?_, j, by simp [hj], ver2, g2, xs2, hg, e, ht⟩
        cases hq : Z vid with
        | none => rfl
        | some s' => rw [l1 _ _ hq] at h1; cases h1
    · obtain ⟨Z2, f2⟩ := frz bt r H
      have e : h.freeze (i :: r) = h.freeze r := by
        simp only [PH.freeze]
        split
        · rename_i ver g own xs hq; exact absurd ⟨_, _, _, _, hq⟩ hi
        · rfl
      refine ⟨Z2, by rw [e]; exact f2.hp, f2.le, fun vid s hs => ?_⟩
      rcases f2.new _ _ hs with h1 | ⟨h1, j, hj, q⟩
      · exact .inl h1
      · exact .inr ⟨h1, j, by simp [hj], q⟩

/-- Frozen rows that may be written: a step. -/
theorem St.frz {ids : List Nat} (H : HP C ρ Z vh h) (f : Frz C false ρ Z h vh ids Z') (hc : ids.all (can K) = true) : St C K ρ Z h vh ρ Z' (h.freeze ids) vh where
  hp := f.hp
  ext := by rw [freeze_vf]; exact Ext.refl _ _
  sig := f.sig
  next := by rw [freeze_next]; exact Nat.le_refl _
  vnext := Nat.le_refl _
  wr := Nat.le_refl _
  keep := fun i hi => by
    rw [freeze_get]
    split
    · rename_i ver g own xs hj
      rw [if_neg, hj]
      intro hm
      rw [List.all_eq_true.1 hc i hm] at hi
      cases hi
    · rfl
  same := fun i ver o _ ho => by
    rw [freeze_get, ho]
    cases o with
    | row g own xs =>
      by_cases hm : i ∈ ids
      · exact .inr (.inl ⟨g, own, xs, rfl, by simp [hm]⟩)
      · exact .inl (by simp [hm])
    | _ => exact .inl rfl
  plc := fun i x hx => by
    rw [freeze_get] at hx
    refine .inl ⟨?_, rfl⟩
    cases hq : h.get i with
    | none => rw [hq] at hx; cases hx
    | some y => exact ⟨y, rfl⟩
  vkeep := fun _ _ _ _ => rfl
  vnone := fun _ _ h _ => h

theorem row_iff {i ver g : Nat} {r : Bool × List PV} : h.row i ver g = some r ↔ h.get i = some (ver, .row g r.1 r.2) := by
  unfold PH.row
  constructor
  · intro hh
    split at hh
    · rename_i v g' own xs hi
      split at hh
      · rename_i hc
        cases hh
        rw [hi, hc.1, hc.2]
      · cases hh
    · cases hh
  · intro hh
    rw [hh]
    simp

/-- An own slice of a frozen row is a list. -/
theorem own_lst (H : HP C ρ Z vh h) {i ver g off len : Nat} {xs : List PV} {v : Value} (hi : h.get i = some (ver, .row g false xs)) (hl : off + len ≤ xs.length) (hr : R C ρ (vfOf h) Z (.own i ver g off len) v) : RD C Z (.lst g ((xs.drop off).take len)) v := by
  cases hr with
  | d h => cases h
  | own i ver g off len c a cap ty hc hv hp ht ha =>
    rw [vfOf_some.2 ⟨_, hi⟩] at hc
    cases hc
    cases ha rfl
    cases H.obj _ _ _ hi with
    | frozen g xs s ty2 ht2 hs he htag hrr hll =>
      rw [ht] at ht2
      cases ht2
      have hlen : ((xs.drop off).take len).length = len := by simp; omega
      have hfl := flat_len hll
      have h1 : readP (xs.flatMap cellsOf) (off * ty.size) (len * ty.size) = some (((xs.drop off).take len).flatMap cellsOf) := by
        unfold readP
        rw [if_pos (by rw [hfl, ← Nat.add_mul]; exact Nat.mul_le_mul_right _ hl), flat_drop hll, flat_take fun x hx => hll x (List.drop_subset _ _ hx)]
      obtain ⟨r', h2, h3⟩ := hrr.read h1
      have := RD.lst g ((xs.drop off).take len) (ρ i) (off * ty.size) cap s r' ty hs he htag ht (by rw [hlen]; exact h2) h3 (fun x hx => hll x (List.drop_subset _ _ (List.take_subset _ _ hx)))
      rw [hlen] at this
      exact this

theorem inlC_sim {h3 : PH} (H3 : HP C ρ Z vh h3) (hf : ∀ i ver g own xs, i ∈ ownC x → h.get i = some (ver, .row g own xs) → h3.get i = some (ver, .row g false xs)) {v : Value} {y : PV} (hi : inlC h x = some y) (hr : R C ρ (vfOf h3) Z x v) : R C ρ (vfOf h3) Z y v := by
  cases x with
  | own i ver g off len =>
    simp only [inlC, Option.map_eq_some_iff] at hi
    obtain ⟨ys, hys, rfl⟩ := hi
    simp only [PH.elems, if_true] at hys
    split at hys
    · rename_i own xs hrow
      split at hys
      · rename_i hl
        cases hys
        have := row_iff.1 hrow
        exact .d (own_lst H3 (hf _ _ _ _ _ (by simp [ownC]) this) hl hr)
      · cases hys
    · cases hys
  | _ => simp only [inlC, Option.some.injEq] at hi; subst hi; exact hr

theorem mapO_sim {f : PV → Option PV} {P : PV → Prop} {cs ys : List PV} {vs : List Value} (hf : ∀ x ∈ cs, ∀ y v, f x = some y → R C ρ vf Z x v → R C ρ vf Z y v) (h : mapO f cs = some ys) (hr : Rs C ρ vf Z cs vs) : Rs C ρ vf Z ys vs := by
  induction cs generalizing ys vs with
  | nil => simp only [mapO, Option.some.injEq] at h; subst h; exact hr
  | cons c cs ih =>
    simp only [mapO] at h
    split at h
    · rename_i y ys' hy hys
      cases h
      cases hr with | cons h1 r => exact .cons (hf c (by simp) _ _ hy h1) (ih (fun x hx => hf x (by simp [hx])) hys r)
    · cases h
theorem ownV_ne (hx : ∀ cs, x ≠ .agg cs) : ownV x = ownC x ∧ ∀ h, inlV h x = inlC h x := by
  cases x <;> first | exact ⟨rfl, fun _ => rfl⟩ | exact absurd rfl (hx _)
theorem ownT_ne (hx : ∀ cs, x ≠ .tuple cs) : ownT x = ownV x ∧ ∀ h, inlT h x = inlV h x := by
  cases x <;> first | exact ⟨rfl, fun _ => rfl⟩ | exact absurd rfl (hx _)
theorem inlV_sim {h3 : PH} (H3 : HP C ρ Z vh h3) (hf : ∀ i ver g own xs, i ∈ ownV x → h.get i = some (ver, .row g own xs) → h3.get i = some (ver, .row g false xs)) {v : Value} {y : PV} (hi : inlV h x = some y) (hr : R C ρ (vfOf h3) Z x v) : R C ρ (vfOf h3) Z y v := by
  by_cases hx : ∃ cs, x = .agg cs
  · obtain ⟨cs, rfl⟩ := hx
    simp only [inlV, Option.map_eq_some_iff] at hi
    obtain ⟨ys, hys, rfl⟩ := hi
    obtain ⟨cs', rfl, hcs⟩ := hr.agg_inv
    refine .agg _ _ (mapO_sim (P := fun _ => True) (fun c hc y v hy hv => inlC_sim H3 (fun i ver g own xs hm => hf i ver g own xs ?_) hy hv) hys hcs)
    simp only [ownV, List.mem_flatMap]
    exact ⟨c, hc, hm⟩
  · obtain ⟨e1, e2⟩ := ownV_ne (x := x) fun cs e => hx ⟨cs, e⟩
    rw [e2] at hi
    rw [e1] at hf
    exact inlC_sim H3 hf hi hr
theorem inlT_sim {h3 : PH} (H3 : HP C ρ Z vh h3) (hf : ∀ i ver g own xs, i ∈ ownT x → h.get i = some (ver, .row g own xs) → h3.get i = some (ver, .row g false xs)) {v : Value} {y : PV} (hi : inlT h x = some y) (hr : R C ρ (vfOf h3) Z x v) : R C ρ (vfOf h3) Z y v := by
  by_cases hx : ∃ cs, x = .tuple cs
  · obtain ⟨cs, rfl⟩ := hx
    simp only [inlT, Option.map_eq_some_iff] at hi
    obtain ⟨ys, hys, rfl⟩ := hi
    obtain ⟨cs', rfl, hcs⟩ := hr.tuple_inv
    refine .tuple _ _ (mapO_sim (P := fun _ => True) (fun c hc y v hy hv => inlV_sim H3 (fun i ver g own xs hm => hf i ver g own xs ?_) hy hv) hys hcs)
    simp only [ownT, List.mem_flatMap]
    exact ⟨c, hc, hm⟩
  · obtain ⟨e1, e2⟩ := ownT_ne (x := x) fun cs e => hx ⟨cs, e⟩
    rw [e2] at hi
    rw [e1] at hf
    exact inlV_sim H3 hf hi hr
theorem frz_get {ids : List Nat} {i ver g : Nat} {own : Bool} {xs : List PV} (hm : i ∈ ids) (hi : h.get i = some (ver, .row g own xs)) : (h.freeze ids).get i = some (ver, .row g false xs) := by
  rw [freeze_get, hi]
  simp [hm]

/-- A literal that is only read. -/
theorem pobj_lit (H : HP C ρ Z vh h) {g : Nat} {xs : List PV} {vcs : List Value} {ty : Ty} (ht : C.T g = some ty) (hr : RDs C Z (xs.flatMap cellsOf) vcs) (hl : ∀ x ∈ xs, (cellsOf x).length = ty.size) :
    ∃ Z', St C K ρ Z h vh ρ Z' h (vh.new (.row vcs ty.size true)) ∧ RD C Z' (.lst g xs) (.slice (some ⟨vh.next, 0, none⟩) xs.length xs.length) ∧ ∀ q s, Z' q = some s → Z q = some s ∨ q = vh.next := by
  have hzn : Z vh.next = none := by
    cases e : Z vh.next with
    | none => rfl
    | some s => exact absurd (H.vlt _ _ (H.sig _ _ e)) (Nat.lt_irrefl _)
  have hget : ∀ q, q ≠ vh.next → (vh.new (.row vcs ty.size true)).get q = vh.get q := fun q hq => by simp [VH.new, nbeq hq]
  let Z1 : Sig := fun q => if q = vh.next then some ⟨vcs, ty.size, true, none⟩ else Z q
  have hle : ∀ vid s, Z vid = some s → Z1 vid = some s := fun vid s hs => by
    have : vid ≠ vh.next := fun e => by rw [e, hzn] at hs; cases hs
    simp [Z1, this, hs]
  have hsle : Z.le Z1 := hle
  have hlt : ∀ i x, h.get i = some x → ρ i ≠ vh.next := fun i x hi => by have := H.rho_lt hi; omega
  refine ⟨Z1, ⟨⟨H.lt, H.inj, ?_, ?_, ?_, ?_⟩, Ext.refl _ _, hsle, Nat.le_refl _, by simp [VH.new], Nat.le_refl _, fun _ _ => rfl, fun _ _ _ _ h => .inl h, fun i x hx => .inl ⟨⟨x, hx⟩, rfl⟩, fun i x hx _ => hget _ (hlt i x hx), fun q hq hn _ => by rw [hget q (by omega)]; exact hn⟩, ?_, ?_⟩
  · intro q y hq
    by_cases e : q = vh.next
    · subst e; simp [VH.new]
    · rw [hget q e] at hq
      have := H.vlt _ _ hq
      simp only [VH.new]
      omega
  · intro q s hq
    by_cases e : q = vh.next
    · simp only [Z1, e, if_true, Option.some.injEq] at hq
      subst hq
      rw [e]
      simp [VH.new]
    · simp only [Z1, e, if_false] at hq
      rw [hget q e]
      exact H.sig _ _ hq
  · intro i ver ob hi
    exact (H.obj _ _ _ hi).mono (Ext.refl _ _) hsle (fun hq => by simp [Z1, hlt i _ hi, hq]) (fun _ => hget _ (hlt i _ hi)) (Nat.le_refl _) (by simp [VH.new])
  · have := H.wr
    simp only [VH.new]
    omega
  · refine .lst g xs vh.next 0 xs.length ⟨vcs, ty.size, true, none⟩ vcs ty (by simp [Z1]) rfl (.inl rfl) ht ?_ (hr.mono hsle) hl
    have hfl := flat_len hl
    rw [readN_def]
    have hvl : vcs.length = xs.length * ty.size := by rw [hr.length]; exact hfl
    refine ⟨?_, .inl (by simp [hvl])⟩
    simp [← hvl]
  · intro q s hq
    by_cases e : q = vh.next
    · exact .inr e
    · simp only [Z1, e, if_false] at hq
      exact .inl hq
end
end Go.Pure
end

section
set_option linter.unusedVariables false
set_option linter.unusedSimpArgs false
namespace Go.Pure
open Go Go.Virt

section
variable {C : Ctx} {Z Z' : Sig} {ρ ρ' : Nat → Nat} {vf vf' : Nat → Option Nat} {h h' : PH} {vh vh' : VH} {K : Loc} {n : Nat} {psl : PSL} {vsl : SL} {o : Oper} {x : PV} {all : List Oper}

theorem row_vr (H : HP C ρ Z vh h) {i ver g : Nat} {own : Bool} {xs : List PV} (hi : h.get i = some (ver, .row g own xs)) :
    ∃ ty vcs b, C.T g = some ty ∧ vh.get (ρ i) = some (.row vcs ty.size b) ∧ RDs C Z (xs.flatMap cellsOf) vcs ∧ (∀ x ∈ xs, (cellsOf x).length = ty.size) ∧ (own = true → b = true ∧ Z (ρ i) = none) := by
  cases H.obj _ _ _ hi with
  | row g xs vcs ty ht hz hg hr hl => exact ⟨ty, vcs, true, ht, hg, hr, hl, fun _ => ⟨rfl, hz⟩⟩
  | frozen g xs s ty ht hs he htag hr hl => exact ⟨ty, s.cells, s.own, ht, by rw [H.sig _ _ hs, he], hr, hl, fun e => by cases e⟩

theorem R.own_inv {i ver g off len : Nat} {v : Value} {ob : PO} (hr : R C ρ (vfOf h) Z (.own i ver g off len) v) (hi : h.get i = some (ver, ob)) : ∃ ty cap, C.T g = some ty ∧ v = .slice (some ⟨ρ i, off * ty.size, none⟩) len cap := by
  cases hr with
  | d h => cases h
  | own i ver g off len c a cap ty hc hv hp ht ha =>
    rw [vfOf_some.2 ⟨_, hi⟩] at hc
    cases hc
    cases ha rfl
    exact ⟨ty, cap, ht, rfl⟩
theorem R.ptr_inv {i ver off : Nat} {v : Value} {ob : PO} (hr : R C ρ (vfOf h) Z (.ptr i ver off) v) (hi : h.get i = some (ver, ob)) : v = .pointer (some ⟨ρ i, off, none⟩) := by
  cases hr with
  | d h => cases h
  | ptr i ver off c a hc hv hp ha =>
    rw [vfOf_some.2 ⟨_, hi⟩] at hc
    cases hc
    cases ha rfl
    rfl
theorem R.eptr_inv {i ver g ix off : Nat} {v : Value} {ob : PO} (hr : R C ρ (vfOf h) Z (.eptr i ver g ix off) v) (hi : h.get i = some (ver, ob)) : ∃ ty, C.T g = some ty ∧ v = .pointer (some ⟨ρ i, ix * ty.size + off, none⟩) := by
  cases hr with
  | d h => cases h
  | eptr i ver g ix off c a ty hc hv hp ht ha =>
    rw [vfOf_some.2 ⟨_, hi⟩] at hc
    cases hc
    cases ha rfl
    exact ⟨ty, ht, rfl⟩
theorem R.map_inv {i ver : Nat} {v : Value} {ob : PO} (hr : R C ρ (vfOf h) Z (.map i ver) v) (hi : h.get i = some (ver, ob)) : v = .map (some (ρ i)) := by
  cases hr with
  | d h => cases h
  | map i ver c w hc hv ha =>
    rw [vfOf_some.2 ⟨_, hi⟩] at hc
    cases hc
    rw [ha rfl]

theorem elems_sim (H : HP C ρ Z vh h) {g : Nat} {ty : Ty} (hT : C.T g = some ty) {v : Value} (hr : R C ρ (vfOf h) Z x v) {ys : List PV} (he : h.elems g x = some ys) :
    lenV v = some ys.length ∧ ∃ vcs, vh.elems ty.size v = some vcs ∧ RDs C Z (ys.flatMap cellsOf) vcs ∧ ∀ y ∈ ys, (cellsOf y).length = ty.size := by
  cases x with
  | nils =>
    simp only [PH.elems, Option.some.injEq] at he
    subst he
    rw [hr.nils_inv]
    exact ⟨rfl, [], rfl, .nil, fun y hy => by simp at hy⟩
  | lst g' xs =>
    simp only [PH.elems] at he
    split at he
    · rename_i e
      cases he
      subst e
      cases hr.lst_inv with
      | lst g xs vid o cap s vcs ty2 hs he2 ht hty hrr hx hl =>
        rw [hT] at hty
        cases hty
        refine ⟨rfl, vcs, ?_, hx, hl⟩
        simp only [VH.elems, VH.load, H.sig _ _ hs, Option.isSome_none, Bool.false_eq_true, if_false, hrr]
    · cases he
  | own i ver g' off len =>
    simp only [PH.elems] at he
    split at he
    · rename_i e
      subst e
      split at he
      · rename_i own xs hrow
        split at he
        · rename_i hl
          cases he
          have hi := row_iff.1 hrow
          obtain ⟨ty1, cap, h1, rfl⟩ := hr.own_inv hi
          obtain ⟨ty2, vcs, b, h2, hg, hrr, hll, _⟩ := row_vr H hi
          rw [hT] at h1 h2
          cases h1; cases h2
          have hlen : ((xs.drop off).take len).length = len := by simp; omega
          have hfl := flat_len hll
          have h1 : readP (xs.flatMap cellsOf) (off * ty.size) (len * ty.size) = some (((xs.drop off).take len).flatMap cellsOf) := by
            unfold readP
            rw [if_pos (by rw [hfl, ← Nat.add_mul]; exact Nat.mul_le_mul_right _ hl), flat_drop hll, flat_take fun x hx => hll x (List.drop_subset _ _ hx)]
          obtain ⟨r', h2, h3⟩ := hrr.read h1
          refine ⟨by rw [hlen]; rfl, r', ?_, h3, fun y hy => hll y (List.drop_subset _ _ (List.take_subset _ _ hy))⟩
          simp only [VH.elems, VH.load, hg, Option.isSome_none, Bool.false_eq_true, if_false, h2]
        · cases he
      · cases he
    · cases he
  | _ => simp [PH.elems] at he

/-- An object is written where it lies. -/
theorem pobj_put (H : HP C ρ Z vh h) {i ver : Nat} {ob0 ob : PO} {vo : VO} (hi : h.get i = some (ver, ob0)) (hc : can K i = true) (hz : Z (ρ i) = none)
    (ho : ∀ ρ' vf', Ext ρ (vfOf h) ρ' vf' → OR C ρ' vf' Z h.next ((vh.put (ρ i) (some vo)).note (ρ i)) i (ρ i) ob) :
    St C K ρ Z h vh (fun j => if j = i then ρ i else ρ j) Z (h.put i ver ob) ((vh.put (ρ i) (some vo)).note (ρ i)) := by
  refine HP.change H (H.lt _ _ hi) hc (fun w o' hw => ?_) (H.rho_lt hi) (.inl ⟨_, hi, rfl⟩) (Nat.le_refl _) (Nat.min_le_left _ _) (fun _ _ => Nat.min_le_right _ _) (fun q hq _ => ?_) (fun _ _ => .inl hz) hz (fun q y hq => ?_) (fun ρ' vf' _ _ he => ho ρ' vf' he)
  · rw [hi] at hw
    cases hw
    exact ⟨Nat.le_refl _, fun _ => rfl⟩
  · simp [VH.note, VH.put, nbeq hq]
  · by_cases e : q = ρ i
    · subst e; exact H.rho_lt hi
    · simp only [VH.note, VH.put, nbeq e, cond_false] at hq
      exact H.vlt _ _ hq
theorem put_at {p : Nat} {vo : VO} : ((vh.put p (some vo)).note p).get p = some vo := by simp [VH.note, VH.put]

/-- What is asked of an operation that only looks. -/
def Sim0 (C : Ctx) (ρ : Nat → Nat) (Z : Sig) (h : PH) (vh : VH) (x : PV) (h' : PH) (r : Option (Value × VH)) : Prop := h' = h ∧ ∃ v, r = some (v, vh) ∧ R C ρ (vfOf h) Z x v
theorem Sim0.up {x : PV} {h' : PH} {r : Option (Value × VH)} (H : HP C ρ Z vh h) (s : Sim0 C ρ Z h vh x h' r) : Sim1 C K ρ Z h vh x h' r := by
  obtain ⟨rfl, v, h1, h2⟩ := s
  exact ⟨v, vh, ρ, Z, h1, h2, St.refl H⟩

theorem load_sim {t : TypeId} {y : Operand} {cf yf : Nat → List Value → VH → Option (Value × VH)} {pcf : CF} {pyf : YF} (H : HP C ρ Z vh h) (S : SR C ρ (vfOf h) Z psl vsl) (ho : o.op = .load t y) {r : PV × PH} (he : stateP C pcf pyf all K psl h o = some r) :
    Sim0 C ρ Z h vh r.1 r.2 (opV C cf yf vsl vh o) := by
  simp only [stateP, ho] at he
  split at he
  · rename_i ty i ver off ht hy
    obtain ⟨w, hw1, hw2⟩ := opdP_sim' S hy
    split at he
    · rename_i v cs hi
      split at he
      · rename_i e
        subst e
        rw [Option.map_eq_some_iff] at he
        obtain ⟨z, hz, rfl⟩ := he
        rw [Option.bind_eq_some_iff] at hz
        obtain ⟨q, hq, hz⟩ := hz
        have hw := hw2.ptr_inv hi
        subst hw
        cases H.obj _ _ _ hi with
        | cells cs vcs e2 hzz hg hr =>
          obtain ⟨q', h1, h2⟩ := hr.read hq
          obtain ⟨z', h3, h4⟩ := toP_sim h2 hz
          refine ⟨rfl, z', ?_, h4⟩
          simp only [opV, ho, ht, hw1, Option.isSome_none, Bool.false_eq_true, if_false, VH.load, hg, h1, Option.bind_some, h3, Option.map_some]
      · cases he
    · cases he
  · rename_i ty i ver g ix off ht hy
    obtain ⟨w, hw1, hw2⟩ := opdP_sim' S hy
    split at he
    · rename_i own xs hrow
      have hi := row_iff.1 hrow
      split at he
      · rename_i el hel
        rw [Option.map_eq_some_iff] at he
        obtain ⟨z, hz, rfl⟩ := he
        rw [Option.bind_eq_some_iff] at hz
        obtain ⟨q, hq, hz⟩ := hz
        obtain ⟨ty1, h1, rfl⟩ := hw2.eptr_inv hi
        obtain ⟨ty2, vcs, b, h2, hg, hrr, hll, _⟩ := row_vr H hi
        rw [h1] at h2
        cases h2
        obtain ⟨hlt, hx⟩ := List.getElem?_eq_some_iff.1 hel
        have hxl : (cellsOf el).length = ty1.size := hll el (by rw [← hx]; exact List.getElem_mem hlt)
        have hle : ix * ty1.size + ty1.size ≤ xs.length * ty1.size := by rw [← Nat.succ_mul]; exact Nat.mul_le_mul_right _ hlt
        have h3 : readP (xs.flatMap cellsOf) (ix * ty1.size) ty1.size = some (cellsOf el) := by
          unfold readP
          rw [if_pos (by rw [flat_len hll]; exact hle), flat_get hll hel]
        obtain ⟨r1, h4, h5⟩ := hrr.read h3
        obtain ⟨r2, h6, h7⟩ := h5.read hq
        obtain ⟨z', h8, h9⟩ := toP_simD h7 hz
        have hle2 : off + ty.size ≤ ty1.size := by
          unfold readP at hq
          split at hq
          · rename_i hq2; rw [hxl] at hq2; exact hq2
          · cases hq
        refine ⟨rfl, z', ?_, .d h9⟩
        simp only [opV, ho, ht, hw1, Option.isSome_none, Bool.false_eq_true, if_false, VH.load, hg, readN_readN h4 h6 hle2, Option.bind_some, h8, Option.map_some]
      · cases he
    · cases he
  · cases he

theorem writeD_sim {cs : List PV} {off : Nat} {vs cs2 : List PV} : ∀ {cs' vs' : List Value}, RDs C Z cs cs' → RDs C Z vs vs' → writeP cs off vs = some cs2 → ∃ cs2', writeAt cs' off vs' = some cs2' ∧ RDs C Z cs2 cs2' := by
  induction cs generalizing off vs cs2 with
  | nil =>
    intro cs' vs' h1 h2 h
    cases vs with
    | nil => simp only [writeP, Option.some.injEq] at h; subst h; cases h2; cases h1; exact ⟨[], rfl, .nil⟩
    | cons v vs => simp [writeP] at h
  | cons c cs ih =>
    intro cs' vs' h1 h2 h
    cases vs with
    | nil =>
      have : writeP (c :: cs) off [] = some (c :: cs) := by cases off <;> rfl
      rw [this] at h; cases h; cases h2
      exact ⟨cs', by cases cs' <;> cases off <;> rfl, h1⟩
    | cons v vs =>
      cases h1 with
      | cons g r =>
        cases h2 with
        | cons g2 r2 =>
          cases off with
          | zero =>
            simp only [writeP, Option.map_eq_some_iff] at h
            obtain ⟨w, hw, rfl⟩ := h
            obtain ⟨w', h3, h4⟩ := ih r r2 hw
            exact ⟨_, by simp only [writeAt, h3, Option.map_some], .cons g2 h4⟩
          | succ i =>
            simp only [writeP, Option.map_eq_some_iff] at h
            obtain ⟨w, hw, rfl⟩ := h
            obtain ⟨w', h3, h4⟩ := ih r (.cons g2 r2) hw
            exact ⟨_, by simp only [writeAt, h3, Option.map_some], .cons g h4⟩
/-- Writing into an element is writing into the row. -/
theorem writeP_flat {xs : List PV} {sz : Nat} (hl : ∀ x ∈ xs, (cellsOf x).length = sz) {i off : Nat} {x : PV} (hx : xs[i]? = some x) {vs ys : List PV} (hw : writeP (cellsOf x) off vs = some ys) :
    writeP (xs.flatMap cellsOf) (i * sz + off) vs = some ((xs.take i).flatMap cellsOf ++ ys ++ (xs.drop (i + 1)).flatMap cellsOf) := by
  have e1 : ∀ (l : List PV) (k : Nat), writeP l k [] = some l := fun l k => by cases l <;> cases k <;> rfl
  have wapp : ∀ (a b vs : List PV) (o : Nat), writeP (a ++ b) (a.length + o) vs = (writeP b o vs).map (a ++ ·) := by
    intro a
    induction a with
    | nil => intro b vs o; simp
    | cons c a ih2 =>
      intro b vs o
      cases vs with
      | nil => rw [e1, e1]; rfl
      | cons v vs =>
        have : (c :: a).length + o = (a.length + o) + 1 := by simp; omega
        rw [this]
        simp only [List.cons_append, writeP, ih2, Option.map_map]
        rfl
  have wapp2 : ∀ (a b vs ys : List PV) (o : Nat), writeP a o vs = some ys → writeP (a ++ b) o vs = some (ys ++ b) := by
    intro a
    induction a with
    | nil =>
      intro b vs ys o h
      cases vs with
      | nil => simp only [writeP, Option.some.injEq] at h; subst h; rw [e1]
      | cons v vs => simp [writeP] at h
    | cons c a ih2 =>
      intro b vs ys o h
      cases vs with
      | nil => rw [e1] at h; cases h; rw [e1]
      | cons v vs =>
        cases o with
        | zero =>
          simp only [writeP, Option.map_eq_some_iff] at h
          obtain ⟨w, hw, rfl⟩ := h
          simp only [List.cons_append, writeP, ih2 b _ _ _ hw, Option.map_some]
        | succ o =>
          simp only [writeP, Option.map_eq_some_iff] at h
          obtain ⟨w, hw, rfl⟩ := h
          simp only [List.cons_append, writeP, ih2 b _ _ _ hw, Option.map_some]
  obtain ⟨hi, e⟩ := List.getElem?_eq_some_iff.1 hx
  have hsplit : xs.flatMap cellsOf = (xs.take i).flatMap cellsOf ++ (cellsOf x ++ (xs.drop (i + 1)).flatMap cellsOf) := by
    conv => lhs; rw [← List.take_append_drop i xs]
    rw [List.flatMap_append, List.drop_eq_getElem_cons hi, e, List.flatMap_cons]
  have hlen : ((xs.take i).flatMap cellsOf).length = i * sz := by
    rw [flat_len fun y hy => hl y (List.take_subset _ _ hy), List.length_take, Nat.min_eq_left (Nat.le_of_lt hi)]
  rw [hsplit, ← hlen, wapp, wapp2 _ _ _ _ _ hw]
  simp
theorem setCells_spec {x y : PV} {off : Nat} {vs : List PV} (h : setCells x off vs = some y) (hc : vs.all cellP = true) : writeP (cellsOf x) off vs = some (cellsOf y) := by
  unfold setCells at h
  split at h
  · rw [Option.map_eq_some_iff] at h
    obtain ⟨q, hq, rfl⟩ := h
    exact hq
  · rename_i hne
    split at h
    · rename_i v
      cases h
      have h1 : cellsOf x = [x] := by cases x <;> first | rfl | exact absurd rfl (hne _)
      simp only [List.all_cons, List.all_nil, Bool.and_true] at hc
      have h2 : cellsOf y = [y] := by cases y <;> first | rfl | simp [cellP] at hc
      rw [h1, h2]
      rfl
    · cases h

theorem store_sim {t : TypeId} {y z : Operand} {cf yf : Nat → List Value → VH → Option (Value × VH)} {pcf : CF} {pyf : YF} (H : HP C ρ Z vh h) (S : SR C ρ (vfOf h) Z psl vsl) (ho : o.op = .store t y z) {r : PV × PH} (he : stateP C pcf pyf all K psl h o = some r) :
    Sim1 C K ρ Z h vh r.1 r.2 (opV C cf yf vsl vh o) := by
  simp only [stateP, ho] at he
  split at he
  · rename_i ty i ver off v ht hy hv
    obtain ⟨w, hw1, hw2⟩ := opdP_sim' S hy
    obtain ⟨u, hu1, hu2⟩ := opdP_sim' S hv
    split at he
    · rename_i hc
      split at he
      · rename_i ver' cs hi
        split at he
        · rename_i e
          subst e
          rw [Option.map_eq_some_iff] at he
          obtain ⟨cs2, hcs2, rfl⟩ := he
          have hw := hw2.ptr_inv hi
          subst hw
          cases H.obj _ _ _ hi with
          | cells cs vcs e2 hzz hg hr =>
            obtain ⟨cs2', h1, h2⟩ := writeP_sim hr hu2.cells hcs2
            have hsz : u.cells.size = ty.size := by rw [← Array.length_toList, hu2.cells.length]; exact hc.1
            have hst := pobj_put (K := K) (ob := .cells cs2) (vo := .row cs2' e2 true) H hi hc.2.2 hzz fun ρ' vf' he => .cells cs2 cs2' e2 hzz put_at (h2.mono he (Sig.le.refl _))
            refine ⟨.tuple #[], _, _, _, ?_, .tuple _ _ .nil, hst⟩
            simp only [opV, ho, ht, hw1, hu1, Option.isSome_none, Bool.false_eq_true, if_false, hsz, if_true, VH.store, hg]
            rw [if_pos (by rw [hu2.cells.cell hc.2.1]; rfl), h1]
            rfl
        · cases he
      · cases he
    · cases he
  · rename_i ty i ver g ix off v0 ht hy hv
    obtain ⟨w, hw1, hw2⟩ := opdP_sim' S hy
    obtain ⟨u, hu1, hu2⟩ := opdP_sim' S hv
    split at he
    · cases he
    · rename_i v hinl
      split at he
      · rename_i hc
        split at he
        · rename_i xs hrow
          have hi := row_iff.1 hrow
          split at he
          · rename_i el hel
            rw [Option.map_eq_some_iff] at he
            obtain ⟨el2, hel2, rfl⟩ := he
            obtain ⟨Z1, f⟩ := frz (bt := false) (ownV v0) H
            have hst1 := St.frz (K := K) H f hc.2.2.2.2
            have hu3 : R C ρ (vfOf (h.freeze (ownV v0))) Z1 v u := inlV_sim f.hp (fun i ver g own xs hm hg => frz_get hm hg) hinl (hu2.mono hst1.ext hst1.sig)
            have hw3 := hw2.mono hst1.ext hst1.sig
            obtain ⟨ty1, h1, rfl⟩ := hw3.eptr_inv hi
            obtain ⟨ty2, vcs, b, h2, hg, hrr, hll, hown⟩ := row_vr f.hp hi
            rw [h1] at h2
            cases h2
            obtain ⟨rfl, hzz⟩ := hown rfl
            have hpl : RDs C Z1 (cellsOf v) u.cells.toList := by
              have hrs := hu3.cells
              have hpl := hc.2.2.1
              clear hrs
              have key : ∀ {l : List PV} {l' : List Value}, l.all (plain 3) = true → Rs C ρ (vfOf (h.freeze (ownV v0))) Z1 l l' → RDs C Z1 l l' := by
                intro l
                induction l with
                | nil => intro l' _ h; cases h; exact .nil
                | cons c cs ih =>
                  intro l' ha h
                  simp only [List.all_cons, Bool.and_eq_true] at ha
                  cases h with | cons h r => exact .cons (plain_R (m := 0) ha.1 h) (ih ha.2 r)
              exact key hpl hu3.cells
            have hwr := writeP_flat hll hel (setCells_spec hel2 hc.2.1)
            obtain ⟨hlt, hx⟩ := List.getElem?_eq_some_iff.1 hel
            have hset : (xs.take ix).flatMap cellsOf ++ cellsOf el2 ++ (xs.drop (ix + 1)).flatMap cellsOf = (xs.set ix el2).flatMap cellsOf := by
              rw [List.set_eq_take_append_cons_drop, if_pos hlt, List.flatMap_append, List.flatMap_cons]
              simp
            rw [hset] at hwr
            obtain ⟨cs2', h3, h4⟩ := writeD_sim hrr hpl hwr
            have hel2l : (cellsOf el2).length = ty1.size := by
              have := (writeP_len (setCells_spec hel2 hc.2.1)).1
              rw [this]
              exact hll el (by rw [← hx]; exact List.getElem_mem hlt)
            have hst2 := pobj_put (K := K) (ob := .row g true (xs.set ix el2)) (vo := .row cs2' ty1.size true) f.hp hi hc.2.2.2.1 hzz fun ρ' vf' he => .row g _ cs2' ty1 h1 hzz put_at h4 (set_len hll hel2l)
            have hsz : u.cells.size = ty.size := by rw [← Array.length_toList, hu3.cells.length]; exact hc.1
            refine ⟨.tuple #[], _, _, _, ?_, .tuple _ _ .nil, hst1.trans H hst2⟩
            simp only [opV, ho, ht, hw1, hu1, Option.isSome_none, Bool.false_eq_true, if_false, hsz, if_true, VH.store, hg]
            rw [if_pos (by rw [hu3.cells.cell hc.2.1]; rfl), h3]
            rfl
          · cases he
        · cases he
      · cases he
  · cases he
end
end Go.Pure
end

section
set_option linter.unusedVariables false
set_option linter.unusedSimpArgs false
namespace Go.Pure
open Go Go.Virt

section
variable {C : Ctx} {Z Z' : Sig} {ρ ρ' : Nat → Nat} {vf vf' : Nat → Option Nat} {h h' : PH} {vh vh' : VH} {K : Loc} {n : Nat} {psl : PSL} {vsl : SL} {o : Oper} {x : PV} {all : List Oper}
  {cf yf : Nat → List Value → VH → Option (Value × VH)} {pcf : CF} {pyf : YF} {r : PV × PH}

theorem bytesP_sim : ∀ {ys : List PV} {vcs : List Value} {s : List Nat}, RDs C Z ys vcs → stateP.bytesP ys = some s → ∃ b, bytesV vcs = some b ∧ s = b.data.toList.map UInt8.toNat
  | [], vcs, s, hr, h => by
    simp only [stateP.bytesP, Option.some.injEq] at h
    subst h
    cases hr
    exact ⟨_, rfl, rfl⟩
  | .int .u8 m :: ys, vcs, s, hr, h => by
    simp only [stateP.bytesP, Option.map_eq_some_iff] at h
    obtain ⟨q, hq, rfl⟩ := h
    cases hr with
    | cons g r =>
      cases g
      obtain ⟨b, h1, rfl⟩ := bytesP_sim r hq
      refine ⟨⟨(UInt8.ofNat m.toNat :: b.data.toList).toArray⟩, by simp only [bytesV, h1, Option.map_some], ?_⟩
      simp
  | .int .i8 _ :: _, _, _, _, h | .int .i16 _ :: _, _, _, _, h | .int .i32 _ :: _, _, _, _, h | .int .i64 _ :: _, _, _, _, h | .int .u16 _ :: _, _, _, _, h | .int .u32 _ :: _, _, _, _, h | .int .u64 _ :: _, _, _, _, h => by simp [stateP.bytesP] at h
  | .bool _ :: _, _, _, _, h | .str _ :: _, _, _, _, h | .nilp :: _, _, _, _, h | .nils :: _, _, _, _, h | .nilm :: _, _, _, _, h | .nilf :: _, _, _, _, h | .nili :: _, _, _, _, h | .lst _ _ :: _, _, _, _, h | .own _ _ _ _ _ :: _, _, _, _, h
  | .ptr _ _ _ :: _, _, _, _, h | .eptr _ _ _ _ _ :: _, _, _, _, h | .rptr _ :: _, _, _, _, h | .map _ _ :: _, _, _, _, h | .fn _ _ _ :: _, _, _, _, h | .yield _ _ :: _, _, _, _, h | .iface _ _ :: _, _, _, _, h | .agg _ :: _, _, _, _, h | .tuple _ :: _, _, _, _, h => by simp [stateP.bytesP] at h

theorem u8s_sim (b : ByteArray) : RDs C Z ((b.data.toList.map UInt8.toNat).map fun (b : Nat) => PV.int .u8 (b : Int)) (b.data.toList.map fun b => Value.int .u8 b.toNat) := by
  induction b.data.toList with
  | nil => exact .nil
  | cons x l ih => exact .cons (.int _ _) ih
theorem u8s_flat (l : List Nat) : (l.map fun (b : Nat) => PV.int .u8 (b : Int)).flatMap cellsOf = l.map fun (b : Nat) => PV.int .u8 (b : Int) := by
  induction l with
  | nil => rfl
  | cons x l ih => simp [cellsOf, ih]
theorem u8s_len (l : List Nat) : ∀ x ∈ l.map (fun (b : Nat) => PV.int .u8 (b : Int)), (cellsOf x).length = 1 := by
  intro x hx
  obtain ⟨a, _, rfl⟩ := List.mem_map.1 hx
  rfl

theorem own_new {i ver g len cap : Nat} {ob : PO} {ty : Ty} (ht : C.T g = some ty) (p : Nat) : R C (fun j => if j = i then p else ρ j) (vfOf (h.put i ver ob)) Z (.own i ver g 0 len) (.slice (some ⟨p, 0, none⟩) len cap) :=
  .own i ver g 0 len ver ⟨p, 0, none⟩ cap ty new_cur (Nat.le_refl _) rfl ht fun _ => by simp

theorem elems_slice {g : Nat} {v : Value} {ys : List PV} (hr : R C ρ vf Z x v) (he : h.elems g x = some ys) : ∃ a l c, v = .slice a l c := by
  cases x with
  | nils => rw [hr.nils_inv]; exact ⟨_, _, _, rfl⟩
  | lst g' xs => cases hr.lst_inv; exact ⟨_, _, _, rfl⟩
  | own i ver g' off len => cases hr with
    | d h => cases h
    | own => exact ⟨_, _, _, rfl⟩
  | _ => simp [PH.elems] at he

theorem convert_sim {src dst : TypeId} {y : Operand} (H : HP C ρ Z vh h) (S : SR C ρ (vfOf h) Z psl vsl) (hK : KOk K n h.next) (hd : ∀ d, o.dst = some d → d < n) (ho : o.op = .convert src dst y) (he : stateP C pcf pyf all K psl h o = some r) :
    Sim1 C K ρ Z h vh r.1 r.2 (opV C cf yf vsl vh o) := by
  simp only [stateP, ho] at he
  split at he
  · rename_i ts td v hs htd hv
    obtain ⟨w, hw1, hw2⟩ := opdP_sim' S hv
    split at he
    · rename_i e s hk1 hk2
      split at he
      · rename_i te d hte hdst
        split at he
        · rename_i hk3
          split at he
          · rename_i hc
            cases he
            obtain ⟨b, rfl, rfl⟩ := hw2.str_inv
            have hst := pobj_new (K := K) (vo := .row (b.data.toList.map fun b => .int .u8 b.toNat) 1 true) H hK (hd d hdst) (ob := .row e true ((b.data.toList.map UInt8.toNat).map fun (b : Nat) => .int .u8 (b : Int))) fun ρ' vf' _ =>
              .row e _ (b.data.toList.map fun b => .int .u8 b.toNat) te hte (by
                cases e : Z vh.next with
                | none => rfl
                | some s => exact absurd (H.vlt _ _ (H.sig _ _ e)) (Nat.lt_irrefl _)) (by rw [hc.2]; simp [VH.new]) (by rw [u8s_flat]; exact u8s_sim b) (by rw [hc.2]; exact u8s_len _)
            refine ⟨.slice (some ⟨vh.next, 0, none⟩) b.size b.size, _, _, _, ?_, by rw [bytes_size]; exact own_new hte _, hst⟩
            simp only [opV, ho, hs, htd, hw1, hk1, hk2, hte, hk3]
            rw [if_pos (by rw [bytes_size]; exact hc.1)]
          · cases he
        · cases he
      · cases he
    · rename_i e v hk1 hk2
      split at he
      · rename_i te hte
        split at he
        · rename_i hk3
          split at he
          · rename_i hsz
            rw [Option.map_eq_some_iff] at he
            obtain ⟨q, hq, rfl⟩ := he
            rw [Option.bind_eq_some_iff] at hq
            obtain ⟨ys, hys, hq⟩ := hq
            obtain ⟨hl, vcs, h1, h2, h3⟩ := elems_sim H hte hw2 hys
            have hflat : ys.flatMap cellsOf = ys := by
              have : ∀ {ys : List PV} {q : List Nat}, stateP.bytesP ys = some q → ys.flatMap cellsOf = ys := by
                intro ys
                induction ys with
                | nil => intros; rfl
                | cons y ys ih =>
                  intro q hq
                  cases y with
                  | int k m =>
                    cases k <;> simp [stateP.bytesP] at hq
                    obtain ⟨q', hq', _⟩ := hq
                    simp [cellsOf, ih hq']
                  | _ => simp [stateP.bytesP] at hq
              exact this hq
            rw [hflat] at h2
            obtain ⟨b, h4, rfl⟩ := bytesP_sim h2 hq
            rw [hsz] at h1
            refine ⟨.string b, vh, ρ, Z, ?_, .d (.str b), St.refl H⟩
            have hv' := elems_slice hw2 hys
            obtain ⟨a, l, c, rfl⟩ := hv'
            simp only [opV, ho, hs, htd, hw1, hk1, hk2, hte, hk3, hsz, if_true, h1, Option.bind_some, h4, Option.map_some]
          · cases he
        · cases he
      · cases he
    · cases he
  · cases he

theorem cut_sim {t : TypeId} {y : Operand} {lo hi : Option Operand} (H : HP C ρ Z vh h) (S : SR C ρ (vfOf h) Z psl vsl) (ho : o.op = .slice t y lo hi none) (he : stateP C pcf pyf all K psl h o = some r) :
    Sim0 C ρ Z h vh r.1 r.2 (opV C cf yf vsl vh o) := by
  simp only [stateP, ho] at he
  split at he
  · rename_i ty i ver g off len ht hy
    obtain ⟨w, hw1, hw2⟩ := opdP_sim' S hy
    split at he
    · rename_i l u hlo hhi
      obtain ⟨l', hl1, hl2⟩ := optP_sim S hlo
      obtain ⟨u', hu1, hu2⟩ := optP_sim S hhi
      split at he
      · rename_i e hk
        split at he
        · rename_i te p q rw_ hte hb hrow
          split at he
          · rename_i hge
            cases he
            subst hge
            have hi' := row_iff.1 hrow
            obtain ⟨ty1, cap, h1, rfl⟩ := hw2.own_inv hi'
            obtain ⟨ty2, vcs, b, h2, hg, _⟩ := row_vr H hi'
            rw [hte] at h1 h2
            cases h1; cases h2
            have hb' := boundsP_sim hl2 hu2 hb
            refine ⟨rfl, _, ?_, .own i ver e (off + p) (q - p) ver ⟨ρ i, off * te.size + p * te.size, none⟩ (q - p) te (vfOf_some.2 ⟨_, hi'⟩) (Nat.le_refl _) rfl hte (fun _ => by rw [Nat.add_mul])⟩
            rw [opV_slice ho ht hw1 hl1 hu1]
            simp only [sliceV, hk, hb', hte, hg, if_true]
          · cases he
        · cases he
      · cases he
    · cases he
  · cases he

theorem indexAddr_sim {t : TypeId} {y z : Operand} (H : HP C ρ Z vh h) (S : SR C ρ (vfOf h) Z psl vsl) (ho : o.op = .indexAddr t y z) (he : stateP C pcf pyf all K psl h o = some r) :
    Sim0 C ρ Z h vh r.1 r.2 (opV C cf yf vsl vh o) := by
  simp only [stateP, ho] at he
  split at he
  · rename_i ty b ver g off len k i ht hy hz
    obtain ⟨w, hw1, hw2⟩ := opdP_sim' S hy
    obtain ⟨u, hu1, hu2⟩ := opdP_sim' S hz
    rw [hu2.int_inv] at hu1
    split at he
    · rename_i e hk
      split at he
      · rename_i te own xs hte hrow
        split at he
        · rename_i hc
          cases he
          obtain ⟨rfl, h0, hlt, hle⟩ := hc
          have hi' := row_iff.1 hrow
          obtain ⟨ty1, cap, h1, rfl⟩ := hw2.own_inv hi'
          rw [hte] at h1
          cases h1
          refine ⟨rfl, _, ?_, .eptr b ver e (off + i.toNat) 0 ver ⟨ρ b, off * te.size + i.toNat * te.size, none⟩ te (vfOf_some.2 ⟨_, hi'⟩) (Nat.le_refl _) rfl hte (fun _ => by rw [Nat.add_mul]; rfl)⟩
          simp only [opV, ho, ht, hw1, hu1, hk, hte]
          rw [if_pos ⟨h0, hlt⟩]
          rfl
        · cases he
      · cases he
    · cases he
  · cases he

theorem lookup_sim {t : TypeId} {y z : Operand} {ok : Bool} (H : HP C ρ Z vh h) (S : SR C ρ (vfOf h) Z psl vsl) (ho : o.op = .lookup t y z ok) (he : stateP C pcf pyf all K psl h o = some r) :
    Sim0 C ρ Z h vh r.1 r.2 (opV C cf yf vsl vh o) := by
  simp only [stateP, ho] at he
  split at he
  · rename_i ty i ver k ht hy hz
    obtain ⟨w, hw1, hw2⟩ := opdP_sim' S hy
    obtain ⟨u, hu1, hu2⟩ := opdP_sim' S hz
    split at he
    · rename_i kt et hk
      split at he
      · rename_i kty ety hkt het
        split at he
        · rename_i hkey
          split at he
          · rename_i ver' es hi
            split at he
            · rename_i e
              subst e
              have hw := hw2.map_inv hi
              subst hw
              cases H.obj _ _ _ hi with
              | map es ves hzz hg hr =>
                split at he
                · rename_i v hf
                  cases he
                  obtain ⟨v', h1, h2⟩ := mapFind_sim hr hu2 hf
                  cases h2 with
                  | some h2 =>
                    rename_i v'
                    refine ⟨rfl, if ok then .tuple #[v', .bool true] else v', ?_, ?_⟩
                    · simp only [opV, ho, ht, hw1, hu1, hk, hkt, het]
                      rw [if_pos (key_sim hu2 hkey)]
                      simp only [hg, h1]
                    · cases ok with
                      | true => exact .tuple _ _ (.cons h2 (.cons (.d (.bool _)) .nil))
                      | false => exact h2
                · rename_i hf
                  rw [Option.map_eq_some_iff] at he
                  obtain ⟨zv, hzv, rfl⟩ := he
                  obtain ⟨v', h1, h2⟩ := mapFind_sim hr hu2 hf
                  cases h2
                  obtain ⟨zv', h3, h4⟩ := zeroE_sim (Z := Z) hzv
                  refine ⟨rfl, if ok then .tuple #[zv', .bool false] else zv', ?_, ?_⟩
                  · simp only [opV, ho, ht, hw1, hu1, hk, hkt, het]
                    rw [if_pos (key_sim hu2 hkey)]
                    simp only [hg, h1, h3, Option.map_some]
                  · cases ok with
                    | true => exact .tuple _ _ (.cons (.d h4) (.cons (.d (.bool _)) .nil))
                    | false => exact .d h4
                · cases he
            · cases he
          · cases he
        · cases he
      · cases he
    · cases he
  · cases he

theorem mapUpdate_sim {t : TypeId} {m k y : Operand} (H : HP C ρ Z vh h) (S : SR C ρ (vfOf h) Z psl vsl) (ho : o.op = .mapUpdate t m k y ∨ o.op = .insert t m k y) (he : stateP C pcf pyf all K psl h o = some r) :
    Sim1 C K ρ Z h vh r.1 r.2 (opV C cf yf vsl vh o) := by
  have he' : (match C.T t, opdP psl m, opdP psl k, opdP psl y with
    | some ty, some (.map i ver), some kv, some v =>
      match ty.k with
      | .map kt _ => match C.T kt, h.get i with
        | some kty, some (w, .map es) => if w = ver ∧ keyP kty.k kv = true ∧ can K i = true then (mapPutP es kv v).map fun es => (PV.tuple [], h.put i ver (.map es)) else none
        | _, _ => none
      | _ => none
    | _, _, _, _ => none) = some r := by
    rcases ho with ho | ho <;> simp only [stateP, ho] at he <;> exact he
  clear he
  split at he'
  · rename_i ty i ver kv v ht hm hk hy
    obtain ⟨w, hw1, hw2⟩ := opdP_sim' S hm
    obtain ⟨u, hu1, hu2⟩ := opdP_sim' S hk
    obtain ⟨z, hz1, hz2⟩ := opdP_sim' S hy
    split at he'
    · rename_i kt et hkk
      split at he'
      · rename_i kty ver' es hkt hi
        split at he'
        · rename_i hc
          obtain ⟨rfl, hkey, hcan⟩ := hc
          rw [Option.map_eq_some_iff] at he'
          obtain ⟨es2, hes2, rfl⟩ := he'
          have hw := hw2.map_inv hi
          subst hw
          cases H.obj _ _ _ hi with
          | map es ves hzz hg hr =>
            obtain ⟨es2', h1, h2⟩ := mapPut_sim hr hu2 hz2 hes2
            have hst := pobj_put (K := K) (ob := .map es2) (vo := .map es2') H hi hcan hzz fun ρ' vf' he => .map es2 es2' hzz put_at (h2.mono he (Sig.le.refl _))
            refine ⟨.tuple #[], _, _, _, ?_, .tuple _ _ .nil, hst⟩
            rcases ho with ho | ho <;> simp only [opV, ho, ht, hw1, hu1, hz1, hkk, hkt, hg] <;> rw [if_pos (key_sim hu2 hkey), h1] <;> rfl
        · cases he'
      · cases he'
    · cases he'
  · cases he'
end
end Go.Pure
end

section
set_option linter.unusedVariables false
set_option linter.unusedSimpArgs false
namespace Go.Pure
open Go Go.Virt

section
variable {C : Ctx} {Z Z' : Sig} {ρ ρ' : Nat → Nat} {vf vf' : Nat → Option Nat} {h h' : PH} {vh vh' : VH} {K : Loc} {n : Nat} {psl : PSL} {vsl : SL} {o : Oper} {x : PV} {all : List Oper}
  {cf yf : Nat → List Value → VH → Option (Value × VH)} {pcf : CF} {pyf : YF} {r : PV × PH}

theorem sig_new (H : HP C ρ Z vh h) : Z vh.next = none := by
  cases e : Z vh.next with
  | none => rfl
  | some s => exact absurd (H.vlt _ _ (H.sig _ _ e)) (Nat.lt_irrefl _)

theorem appendP_sim (H : HP C ρ Z vh h) (hK : KOk K n h.next) {d g : Nat} (hd : d < n) {ty : Ty} (ht : C.T g = some ty) {m : Nat} {ys : List PV} {s : PV} {s' x' : Value} {ycs : List Value} (hs : R C ρ (vfOf h) Z s s') (hm : lenV x' = some m) (hml : ys.length = m)
    (hx : vh.elems ty.size x' = some ycs) (hy : RDs C Z (ys.flatMap cellsOf) ycs) (hyl : ∀ y ∈ ys, (cellsOf y).length = ty.size) (he : appendP K h d g ty m ys s = some r) : Sim1 C K ρ Z h vh r.1 r.2 (appendV vh ty s' x') := by
  cases s with
  | nils =>
    rw [hs.nils_inv]
    have hn0 : vh.elems ty.size (.slice none 0 0) = some [] := rfl
    simp only [appendP] at he
    split at he
    · rename_i hc
      split at he
      · rename_i h0
        cases he
        refine ⟨.slice none 0 0, vh, ρ, Z, ?_, .d .nils, St.refl H⟩
        unfold appendV
        simp only [hm, hx, hn0]
        rw [if_pos ⟨by omega, hc.2⟩, if_pos h0]
      · rename_i h0
        cases he
        have hst := pobj_new (K := K) (vo := .row ycs ty.size true) H hK hd (ob := .row g true ys) fun ρ' vf' _ => .row g ys ycs ty ht (sig_new H) (by simp [VH.new]) hy hyl
        refine ⟨.slice (some ⟨vh.next, 0, none⟩) m m, _, _, _, ?_, own_new ht _, hst⟩
        unfold appendV
        simp only [hm, hx, hn0]
        rw [if_pos ⟨by omega, hc.2⟩, if_neg h0]
    · cases he
  | own i ver g' off len =>
    simp only [appendP] at he
    split at he
    · rename_i hc
      obtain ⟨hc1, hc2, hc3, rfl, hcan⟩ := hc
      split at he
      · rename_i xs hrow
        split at he
        · rename_i hl
          cases he
          have hi := row_iff.1 hrow
          obtain ⟨ty1, cap, h1, rfl⟩ := hs.own_inv hi
          obtain ⟨ty2, vcs, b, h2, hg, hrr, hll, hown⟩ := row_vr H hi
          rw [ht] at h1 h2
          cases h1; cases h2
          obtain ⟨rfl, hzz⟩ := hown rfl
          have hfl := flat_len hll
          have h1 : readP (xs.flatMap cellsOf) (off * ty.size) (len * ty.size) = some (((xs.drop off).take len).flatMap cellsOf) := by
            unfold readP
            rw [if_pos (by rw [hfl, ← Nat.add_mul]; exact Nat.mul_le_mul_right _ hl), flat_drop hll, flat_take fun x hx => hll x (List.drop_subset _ _ hx)]
          obtain ⟨r', h2, h3⟩ := hrr.read h1
          have hel : vh.elems ty.size (.slice (some ⟨ρ i, off * ty.size, none⟩) len cap) = some r' := by
            simp only [VH.elems, VH.load, hg, Option.isSome_none, Bool.false_eq_true, if_false, h2]
          have hlt := H.rho_lt hi
          have hst : St C K ρ Z h vh (fun j => if j = i then vh.next else ρ j) Z (h.put i (ver + 1) (.row g' true ((xs.drop off).take len ++ ys))) (((vh.put (ρ i) none).note (ρ i)).new (.row (r' ++ ycs) ty.size true)) := by
            refine HP.change H (H.lt _ _ hi) hcan (fun w o' hw => ?_) (by simp [VH.new, VH.note, VH.put]) (.inr (Nat.le_refl _)) (by simp [VH.new, VH.note, VH.put]) (Nat.min_le_left _ _) (fun _ _ => Nat.min_le_right _ _)
              (fun q hq1 hq2 => ?_) (fun _ _ => .inl hzz) (sig_new H) (fun q y hq => ?_) (fun ρ' vf' _ _ hext => ?_)
            · rw [hi] at hw; cases hw; exact ⟨by omega, fun e => by omega⟩
            · have := hq2 ⟨_, hi⟩
              simp [VH.new, VH.note, VH.put, nbeq hq1, nbeq this]
            · by_cases e : q = vh.next
              · subst e; simp [VH.new, VH.note, VH.put]
              · simp only [VH.new, VH.note, VH.put, nbeq e, cond_false] at hq ⊢
                cases e2 : Nat.beq q (ρ i) with
                | true => rw [e2] at hq; cases hq
                | false =>
                  rw [e2] at hq
                  have := H.vlt _ _ hq
                  omega
            · refine .row g' _ (r' ++ ycs) ty ht (sig_new H) (by simp [VH.new, VH.note, VH.put]) ?_ ?_
              · rw [List.flatMap_append]; exact h3.append hy
              · intro x hx
                rcases List.mem_append.1 hx with hx | hx
                · exact hll x (List.drop_subset _ _ (List.take_subset _ _ hx))
                · exact hyl x hx
          refine ⟨.slice (some ⟨vh.next, 0, none⟩) (len + m) (len + m), _, _, _, ?_, own_new ht _, hst⟩
          unfold appendV
          simp only [hm, hx, hel]
          rw [if_pos ⟨hc1, hc2, hc3⟩]
          simp only [hg, if_true]
        · cases he
      · cases he
    · cases he
  | _ => simp [appendP] at he

theorem delete_sim {i ver : Nat} {k : PV} {u : Value} {c : Call} (H : HP C ρ Z vh h) (S : SR C ρ (vfOf h) Z psl vsl) (ho : o.op = .call c) (hcal : c.callee = .builtin .delete) {w : Value} (ha : opds C vsl c.args.toList = some [w, u]) (hw : R C ρ (vfOf h) Z (.map i ver) w) (hu : R C ρ (vfOf h) Z k u)
    (he : (match (c.argTypes[0]?).bind C.T with
          | some ts => match ts.k with
            | .map kt _ =>
              match C.T kt, h.get i with
              | some kty, some (w, .map es) => if w = ver ∧ keyP kty.k k = true ∧ can K i = true then (mapDelP es k).map fun es => (PV.tuple [], h.put i ver (.map es)) else none
              | _, _ => none
            | _ => none
          | none => none) = some r) : Sim1 C K ρ Z h vh r.1 r.2 (opV C cf yf vsl vh o) := by
  split at he
  · rename_i ts ht
    split at he
    · rename_i kt et hk
      split at he
      · rename_i kty ver' es hkt hi
        split at he
        · rename_i hc
          obtain ⟨rfl, hkey, hcan⟩ := hc
          rw [Option.map_eq_some_iff] at he
          obtain ⟨es2, hes2, rfl⟩ := he
          have hw' := hw.map_inv hi
          subst hw'
          cases H.obj _ _ _ hi with
          | map es ves hzz hg hr =>
            obtain ⟨es2', h1, h2⟩ := mapDel_sim hr hu hes2
            have hst := pobj_put (K := K) (ob := .map es2) (vo := .map es2') H hi hcan hzz fun ρ' vf' he => .map es2 es2' hzz put_at (h2.mono he (Sig.le.refl _))
            refine ⟨.tuple #[], _, _, _, ?_, .tuple _ _ .nil, hst⟩
            simp only [opV, ho, callV, ha, hcal, ht, hk, hkt, hg]
            rw [if_pos (key_sim hu hkey), h1]
            rfl
        · cases he
      · cases he
    · cases he
  · cases he

/-- What is asked of the two kinds of calls. -/
def CfSim (C : Ctx) (K : Loc) (n : Nat) (pcf : CF) (cf : Nat → List Value → VH → Option (Value × VH)) : Prop :=
  ∀ f args h r, pcf K f args h = some r → ∀ (ρ : Nat → Nat) (Z : Sig) (vh : VH) (vargs : List Value), HP C ρ Z vh h → KOk K n h.next → Rs C ρ (vfOf h) Z args vargs → Sim1 C K ρ Z h vh r.1 r.2 (cf f vargs vh)
def YfSim (C : Ctx) (K : Loc) (n : Nat) (pyf : YF) (yf : Nat → List Value → VH → Option (Value × VH)) : Prop :=
  ∀ l ver args h r, pyf K l ver args h = some r → ∀ (ρ : Nat → Nat) (Z : Sig) (vh : VH) (vargs : List Value) (w : Value), HP C ρ Z vh h → KOk K n h.next → Rs C ρ (vfOf h) Z args vargs → R C ρ (vfOf h) Z (.yield l ver) w → ∃ p, w = .func (.yield p) #[] #[] ∧ Sim1 C K ρ Z h vh r.1 r.2 (yf p vargs vh)

theorem call_sim {c : Call} (hcf : CfSim C K n pcf cf) (hyf : YfSim C K n pyf yf) (H : HP C ρ Z vh h) (S : SR C ρ (vfOf h) Z psl vsl) (hK : KOk K n h.next) (hd : ∀ d, o.dst = some d → d < n) (ho : o.op = .call c) (he : stateP C pcf pyf all K psl h o = some r) :
    Sim1 C K ρ Z h vh r.1 r.2 (opV C cf yf vsl vh o) := by
  simp only [stateP, ho] at he
  split at he
  · cases he
  · rename_i args hargs
    obtain ⟨vargs, ha1, ha2⟩ := opdsP_sim S hargs
    split at he
    · rename_i f hcal
      split at he
      · rename_i g first captured hf
        obtain ⟨w, hw1, hw2⟩ := opdP_sim' S hf
        cases hw2 with
        | d h => cases h
        | fn g a c2 a' c' r1 r2 =>
          obtain ⟨v, vh', ρ', Z', q1, q2, q3⟩ := hcf g _ h r he ρ Z vh (a'.toList ++ vargs ++ c'.toList) H hK ((r1.append ha2).append r2)
          refine ⟨v, vh', ρ', Z', ?_, q2, q3⟩
          simp only [opV, ho, callV, ha1, hcal, hw1]
          exact q1
      · rename_i l ver hf
        obtain ⟨w, hw1, hw2⟩ := opdP_sim' S hf
        obtain ⟨p, rfl, v, vh', ρ', Z', q1, q2, q3⟩ := hyf l ver args h r he ρ Z vh vargs w H hK ha2 hw2
        refine ⟨v, vh', ρ', Z', ?_, q2, q3⟩
        simp only [opV, ho, callV, ha1, hcal, hw1]
        exact q1
      · cases he
    · cases he
    · rename_i b hcal
      split at he
      · rename_i i ver
        cases ha2 with
        | cons hy hr =>
          cases hr
          split at he
          · rename_i ty ht
            split at he
            · rename_i kt et hk
              split at he
              · rename_i w es hi
                split at he
                · rename_i e
                  subst e
                  cases he
                  have hw := hy.map_inv hi
                  subst hw
                  cases H.obj _ _ _ hi with
                  | map es ves hzz hg hr =>
                    refine ⟨.int .i64 ves.length, vh, ρ, Z, ?_, by rw [hr.length]; exact .d (.int _ _), St.refl H⟩
                    simp only [opV, ho, callV, ha1, hcal, ht, hk, hg]
                · cases he
              · cases he
            · cases he
          · cases he
      · rename_i s x
        cases ha2 with
        | cons hs hr =>
          rename_i s' l1
          cases hr with
          | cons hx hr =>
            rename_i x' l2
            cases hr
            split at he
            · rename_i ts tx d hts htx hdst
              split at he
              · rename_i e hk
                split at he
                · rename_i ty hty
                  have hop : opV C cf yf vsl vh o = appendsV vh ty tx s' x' := by
                    simp only [opV, ho, callV, ha1, hcal, hts, htx, hk, hty]
                  rw [hop]
                  split at he
                  · rename_i k hkx
                    split at he
                    · rename_i k2 m
                      have hs' := hs.nils_inv
                      have hx' := hx.int_inv
                      subst hs' hx'
                      split at he
                      · rename_i hc
                        split at he
                        · rename_i h0
                          cases he
                          refine ⟨.slice none 0 0, vh, ρ, Z, ?_, .d .nils, St.refl H⟩
                          simp only [appendsV, hkx]
                          rw [if_pos hc, if_pos h0]
                        · rename_i h0
                          split at he
                          · rename_i z hz
                            split at he
                            · rename_i hzc
                              cases he
                              have hzc' : RDs C Z (cellsOf z) ty.zero := zero_cells hz
                              have hst := pobj_new (K := K) (vo := .row (repl m.toNat ty.zero) ty.size true) H hK (hd d hdst) (ob := .row e true (List.replicate m.toNat z)) fun ρ' vf' _ =>
                                .row e _ _ ty hty (sig_new H) (by simp [VH.new]) (repl_sim hzc' m.toNat) (fun x hx => by rw [(List.mem_replicate.1 hx).2]; exact hzc.1)
                              refine ⟨.slice (some ⟨vh.next, 0, none⟩) m.toNat m.toNat, _, _, _, ?_, own_new hty _, hst⟩
                              simp only [appendsV, hkx]
                              rw [if_pos hc, if_neg h0]
                            · cases he
                          · cases he
                      · cases he
                    · cases he
                  · rename_i hkx
                    split at he
                    · rename_i b
                      split at he
                      · rename_i hsz
                        obtain ⟨bs, rfl, rfl⟩ := hx.str_inv
                        have hA : appendsV vh ty tx s' (.string bs) = appendV vh ty s' (.string bs) := by
                          unfold appendsV
                          split
                          · rename_i k hk2; exact absurd hk2 (hkx _)
                          · simp [hsz]
                        rw [hA]
                        refine appendP_sim (ycs := bs.data.toList.map fun b => .int .u8 b.toNat) H hK (hd d hdst) hty hs (by simp only [lenV]; rw [bytes_size]) (by simp) rfl ?_ ?_ he
                        · rw [u8s_flat]; exact u8s_sim bs
                        · rw [hsz]; exact u8s_len _
                      · cases he
                    · rename_i hns
                      split at he
                      · rename_i ys hys
                        obtain ⟨hl, vcs, h1, h2, h3⟩ := elems_sim H hty hx hys
                        obtain ⟨a, l, c2, rfl⟩ := elems_slice hx hys
                        have hA : appendsV vh ty tx s' (.slice a l c2) = appendV vh ty s' (.slice a l c2) := by
                          unfold appendsV
                          split
                          · rename_i k hk2; exact absurd hk2 (hkx _)
                          · simp
                        rw [hA]
                        exact appendP_sim H hK (hd d hdst) hty hs hl rfl h1 h2 h3 he
                      · cases he
                · cases he
              · cases he
            · cases he
      · rename_i i ver k
        cases ha2 with
        | cons hs hr =>
          cases hr with
          | cons hx hr =>
            cases hr
            exact delete_sim H S ho hcal ha1 hs hx he
      · cases he

theorem stateP_sim (hcf : CfSim C K n pcf cf) (hyf : YfSim C K n pyf yf) (H : HP C ρ Z vh h) (S : SR C ρ (vfOf h) Z psl vsl) (hK : KOk K n h.next) (hd : ∀ d, o.dst = some d → d < n) (he : stateP C pcf pyf all K psl h o = some r) :
    Sim1 C K ρ Z h vh r.1 r.2 (opV C cf yf vsl vh o) := by
  cases ho : o.op with
  | load t y => exact (load_sim H S ho he).up H
  | store t y z => exact store_sim H S ho he
  | convert src dst y => exact convert_sim H S hK hd ho he
  | slice t y lo hi mx =>
    cases mx with
    | none => exact (cut_sim H S ho he).up H
    | some m => simp [stateP, ho] at he
  | indexAddr t y z => exact (indexAddr_sim H S ho he).up H
  | lookup t y z ok => exact (lookup_sim H S ho he).up H
  | mapUpdate t m k y => exact mapUpdate_sim H S (.inl ho) he
  | insert t m k y => exact mapUpdate_sim H S (.inr ho) he
  | call c => exact call_sim hcf hyf H S hK hd ho he
  | _ => simp [stateP, ho] at he

/-- Operations that only look. -/
theorem read_sim (H : HP C ρ Z vh h) (S : SR C ρ (vfOf h) Z psl vsl) (hw : writesP o = false) (he : stateP C pcf pyf all K psl h o = some r) : Sim0 C ρ Z h vh r.1 r.2 (opV C cf yf vsl vh o) := by
  cases ho : o.op with
  | load t y => exact load_sim H S ho he
  | slice t y lo hi mx =>
    cases mx with
    | none => exact cut_sim H S ho he
    | some m => simp [stateP, ho] at he
  | indexAddr t y z => exact indexAddr_sim H S ho he
  | lookup t y z ok => exact lookup_sim H S ho he
  | call c =>
    simp only [writesP, ho] at hw
    split at hw
    · rename_i hcal
      simp only [stateP, ho] at he
      split at he
      · cases he
      · rename_i args hargs
        obtain ⟨vargs, ha1, ha2⟩ := opdsP_sim S hargs
        rw [hcal] at he
        try dsimp only at he
        split at he
        · rename_i i ver _
          cases ha2 with
          | cons hy hr =>
            cases hr
            split at he
            · rename_i ty ht
              split at he
              · rename_i kt et hk
                split at he
                · rename_i w es hi
                  split at he
                  · rename_i e
                    subst e
                    cases he
                    have hw := hy.map_inv hi
                    subst hw
                    cases H.obj _ _ _ hi with
                    | map es ves hzz hg hr =>
                      refine ⟨rfl, .int .i64 ves.length, ?_, by rw [hr.length]; exact .d (.int _ _)⟩
                      simp only [opV, ho, callV, ha1, hcal, ht, hk, hg]
                  · cases he
                · cases he
              · cases he
            · cases he
        · rename_i hh; cases hh
        · rename_i hh; cases hh
        · cases he
    · cases hw
  | _ => simp [writesP, ho] at hw <;> simp [stateP, ho] at he

theorem mk_new {m : Mk} {sh : Shape} {vo : VO} (hm : MkOk C ρ (vfOf h) Z m sh vo) (H : HP C ρ Z vh h) (hK : KOk K n h.next) {d : Nat} (hd : d < n) {ob : PO} (hob : m.obj = some ob) :
    Sim1 C K ρ Z h vh (m.val (K.base + d) (h.stamp (K.base + d))) (h.put (K.base + d) (h.stamp (K.base + d)) ob) (some (sh.val vh.next, vh.new vo)) := by
  cases hm with
  | lit => simp [Mk.obj] at hob
  | ptr cs vcs e hr =>
    simp only [Mk.obj, Option.some.injEq] at hob
    subst hob
    have hst := pobj_new (K := K) (vo := .row vcs e true) H hK hd (ob := .cells cs) fun ρ' vf' he => .cells cs vcs e (sig_new H) (by simp [VH.new]) (hr.mono he (Sig.le.refl _))
    exact ⟨_, _, _, _, rfl, .ptr _ _ 0 _ ⟨vh.next, 0, none⟩ new_cur (Nat.le_refl _) rfl fun _ => by simp, hst⟩
  | slice g m xs vcs ty ht hr hl =>
    simp only [Mk.obj, Option.some.injEq] at hob
    subst hob
    have hst := pobj_new (K := K) (vo := .row vcs ty.size true) H hK hd (ob := .row g true xs) fun ρ' vf' he => .row g xs vcs ty ht (sig_new H) (by simp [VH.new]) hr hl
    exact ⟨_, _, _, _, rfl, own_new ht _, hst⟩
  | map =>
    simp only [Mk.obj, Option.some.injEq] at hob
    subst hob
    have hst := pobj_new (K := K) (vo := .map []) H hK hd (ob := .map []) fun ρ' vf' he => .map [] [] (sig_new H) (by simp [VH.new]) .nil
    exact ⟨_, _, _, _, rfl, .map _ _ _ vh.next new_cur (Nat.le_refl _) fun _ => by simp, hst⟩

theorem opP_sim (hcf : CfSim C K n pcf cf) (hyf : YfSim C K n pyf yf) (H : HP C ρ Z vh h) (S : SR C ρ (vfOf h) Z psl vsl) (hK : KOk K n h.next) (hd : ∀ d, o.dst = some d → d < n) (he : opP C pcf pyf all K psl h o = some r) :
    Sim1 C K ρ Z h vh r.1 r.2 (opV C cf yf vsl vh o) := by
  unfold opP at he
  split at he
  · rename_i v hf
    cases he
    obtain ⟨w, h1, h2⟩ := free_sim S hf
    exact ⟨w, vh, ρ, Z, h2 cf yf vh H.sig, h1, St.refl H⟩
  · split at he
    · rename_i m hm
      obtain ⟨sh, vo, h1, h2, h3⟩ := makeP_sim S hm
      rw [h3 cf yf vh]
      split at he
      · rename_i hob
        cases he
        cases h1 with
        | lit g xs vcs ty ht hr hl =>
          obtain ⟨Z', hst, hrd, _⟩ := pobj_lit (K := K) H ht hr hl
          exact ⟨_, _, ρ, Z', rfl, .d hrd, hst⟩
        | _ => simp [Mk.obj] at hob
      · rename_i ob d hob hdst
        cases he
        exact mk_new h1 H hK (hd d hdst) hob
      · cases he
    · exact stateP_sim hcf hyf H S hK hd he

theorem wantedP_sim {ops : List Oper} {b : Bool} (S : SR C ρ vf Z psl vsl) (he : wantedP ops psl o = some b) : wantedV ops vsl o = some b := by
  unfold wantedP at he
  unfold wantedV
  split at he
  · rename_i hg; rw [hg]; exact he
  · rename_i j want hg
    rw [hg]
    try dsimp only
    split at he
    · rename_i d hd
      rw [hd]
      try dsimp only
      split at he
      · rename_i c hc
        cases he
        obtain ⟨w, h1, h2⟩ := S _ _ hc
        rw [h1, h2.bool_inv]
      · rename_i w hne hc
        cases he
        obtain ⟨u, h1, h2⟩ := S _ _ hc
        rw [h1]
        cases h2 with
        | d h => cases h <;> first | rfl | exact absurd rfl (hne _)
        | _ => rfl
      · cases he
    · rename_i hd
      rw [hd]
      exact he

theorem opsP_sim (hcf : CfSim C K n pcf cf) (hyf : YfSim C K n pyf yf) : ∀ (l : List Oper) {psl : PSL} {vsl : SL} {h : PH} {vh : VH} {ρ : Nat → Nat} {Z : Sig} {q : PSL × PH}, HP C ρ Z vh h → SR C ρ (vfOf h) Z psl vsl → KOk K n h.next → (∀ o ∈ l, ∀ d, o.dst = some d → d < n) → opsP C pcf pyf K all l psl h = some q →
    ∃ vsl' vh' ρ' Z', opsV C cf yf all l vsl vh = some (vsl', vh') ∧ SR C ρ' (vfOf q.2) Z' q.1 vsl' ∧ St C K ρ Z h vh ρ' Z' q.2 vh' := by
  intro l
  induction l with
  | nil =>
    intro psl vsl h vh ρ Z q H S hK hd he
    simp only [opsP, Option.some.injEq] at he
    subst he
    exact ⟨vsl, vh, ρ, Z, rfl, S, St.refl H⟩
  | cons o l ih =>
    intro psl vsl h vh ρ Z q H S hK hd he
    simp only [opsP] at he
    simp only [opsV]
    split at he
    · rename_i hw
      rw [wantedP_sim S hw]
      try dsimp only
      split at he
      · rename_i v h1 ho
        obtain ⟨w, vh1, ρ1, Z1, a1, a2, a3⟩ := opP_sim hcf hyf H S hK (hd o (by simp)) ho
        rw [a1]
        try dsimp only
        obtain ⟨vsl', vh', ρ', Z', b1, b2, b3⟩ := ih a3.hp ((S.mono a3.ext a3.sig).putP o.dst a2) ⟨hK.1, Nat.le_trans hK.2 a3.next⟩ (fun o ho => hd o (by simp [ho])) he
        exact ⟨vsl', vh', ρ', Z', b1, b2, a3.trans H b3⟩
      · cases he
    · rename_i hw
      rw [wantedP_sim S hw]
      try dsimp only
      exact ih H (S.putP o.dst (.tuple [] #[] .nil)) hK (fun o ho => hd o (by simp [ho])) he
    · cases he
end
end Go.Pure
end

section
set_option linter.unusedVariables false
set_option linter.unusedSimpArgs false
namespace Go.Pure
open Go Go.Virt

section
variable {C : Ctx} {Z Z' : Sig} {ρ ρ' : Nat → Nat} {vf vf' : Nat → Option Nat} {h h' : PH} {vh vh' : VH} {K : Loc} {n : Nat} {psl : PSL} {vsl : SL} {x : PV} {v : Value}

theorem HP.sub (H : HP C ρ Z vh h) (hg : h'.get = h.get) (hn : ∀ i x, h.get i = some x → i < h'.next) (hv : vh'.get = vh.get) (hvn : vh.next ≤ vh'.next) (hw : vh'.wr ≤ vh'.next) : HP C ρ Z vh' h' where
  lt := fun i x hx => hn i x (by rw [← hg]; exact hx)
  inj := fun i j x y hx hy e => H.inj i j x y (by rw [← hg]; exact hx) (by rw [← hg]; exact hy) e
  vlt := fun i o ho => Nat.lt_of_lt_of_le (H.vlt i o (by rw [← hv]; exact ho)) hvn
  sig := fun vid s hs => by rw [hv]; exact H.sig vid s hs
  obj := fun i ver o ho => by
    rw [hg] at ho
    have hvf : vfOf h' = vfOf h := by unfold vfOf; rw [hg]
    rw [hvf]
    have h1 := H.obj i ver o ho
    cases h1 with
    | loop K0 n sl vsl ps as bd a b c d e f g => exact .loop K0 n sl vsl ps as bd a (by rw [hv]; exact b) c d e f g
    | cells cs vcs e a b c => exact .cells cs vcs e a (by rw [hv]; exact b) c
    | row g xs vcs ty a b c d e => exact .row g xs vcs ty a b (by rw [hv]; exact c) d e
    | frozen g xs s ty a b c d e f => exact .frozen g xs s ty a b c d e f
    | map es ves a b c => exact .map es ves a (by rw [hv]; exact b) c
    | gone a b => exact .gone (by omega) b
  wr := hw

/-! ### values without references beyond m -/
theorem below_R {m : Nat} (hvf : ∀ i, i < m → vf' i = vf i) : ∀ (k : Nat) {x : PV} {v : Value}, below m k x = true → R C ρ vf Z x v → R C ρ vf' Z x v := by
  intro k
  induction k with
  | zero =>
    intro x v hb hr
    cases hr with
    | d h => exact .d h
    | own i ver g off len c a cap ty hi hv hp ht ha => exact .own i ver g off len c a cap ty (by rw [hvf i (by simpa [below] using hb)]; exact hi) hv hp ht ha
    | ptr i ver off c a hi hv hp ha => exact .ptr i ver off c a (by rw [hvf i (by simpa [below] using hb)]; exact hi) hv hp ha
    | eptr i ver g ix off c a ty hi hv hp ht ha => exact .eptr i ver g ix off c a ty (by rw [hvf i (by simpa [below] using hb)]; exact hi) hv hp ht ha
    | rptr cs vid o s vcs hs hr hx => exact .rptr cs vid o s vcs hs hr hx
    | map i ver c w hi hv ha => exact .map i ver c w (by rw [hvf i (by simpa [below] using hb)]; exact hi) hv ha
    | yield i ver c w hi hv ha => exact .yield i ver c w (by rw [hvf i (by simpa [below] using hb)]; exact hi) hv ha
    | _ => simp [below] at hb
  | succ k ih =>
    intro x v hb hr
    have hs : ∀ {cs : List PV} {cs' : List Value}, cs.all (below m k) = true → Rs C ρ vf Z cs cs' → Rs C ρ vf' Z cs cs' := by
      intro cs
      induction cs with
      | nil => intro cs' _ h; cases h; exact .nil
      | cons c cs ih2 =>
        intro cs' ha h
        simp only [List.all_cons, Bool.and_eq_true] at ha
        cases h with | cons h r => exact .cons (ih ha.1 h) (ih2 ha.2 r)
    cases hr with
    | d h => exact .d h
    | own i ver g off len c a cap ty hi hv hp ht ha => exact .own i ver g off len c a cap ty (by rw [hvf i (by simpa [below] using hb)]; exact hi) hv hp ht ha
    | ptr i ver off c a hi hv hp ha => exact .ptr i ver off c a (by rw [hvf i (by simpa [below] using hb)]; exact hi) hv hp ha
    | eptr i ver g ix off c a ty hi hv hp ht ha => exact .eptr i ver g ix off c a ty (by rw [hvf i (by simpa [below] using hb)]; exact hi) hv hp ht ha
    | rptr cs vid o s vcs hs hr hx => exact .rptr cs vid o s vcs hs hr hx
    | map i ver c w hi hv ha => exact .map i ver c w (by rw [hvf i (by simpa [below] using hb)]; exact hi) hv ha
    | yield i ver c w hi hv ha => exact .yield i ver c w (by rw [hvf i (by simpa [below] using hb)]; exact hi) hv ha
    | fn f a c a' c' h1 h2 =>
      simp only [below, Bool.and_eq_true] at hb
      exact .fn f a c a' c' (hs hb.1 h1) (hs hb.2 h2)
    | iface t y w h => exact .iface t y w (ih (by simpa only [below] using hb) h)
    | agg cs cs' h => exact .agg cs cs' (hs (by simpa only [below] using hb) h)
    | tuple cs cs' h => exact .tuple cs cs' (hs (by simpa only [below] using hb) h)
theorem below_Rs {m : Nat} (hvf : ∀ i, i < m → vf' i = vf i) {k : Nat} {cs : List PV} {cs' : List Value} (ha : cs.all (below m k) = true) (h : Rs C ρ vf Z cs cs') : Rs C ρ vf' Z cs cs' := by
  induction cs generalizing cs' with
  | nil => cases h; exact .nil
  | cons c cs ih2 =>
    simp only [List.all_cons, Bool.and_eq_true] at ha
    cases h with | cons h r => exact .cons (below_R hvf k ha.1 h) (ih2 ha.2 r)
theorem below_M {m : Nat} (hvf : ∀ i, i < m → vf' i = vf i) {k : Nat} {es : List (PV × PV)} {es' : List (Value × Value)} (ha : es.all (fun e => below m k e.1 && below m k e.2) = true) (h : MRP C ρ vf Z es es') : MRP C ρ vf' Z es es' := by
  induction h with
  | nil => exact .nil
  | cons hk hv r ih =>
    simp only [List.all_cons, Bool.and_eq_true] at ha
    exact .cons (below_R hvf k ha.1.1 hk) (below_R hvf k ha.1.2 hv) (ih ha.2)

/-! ### lent rows given back -/
theorem noTag_succ (g : Nat) : ∀ (n : Nat) (x : PV), noTag g n x = true → noTag g (n + 1) x = true := by
  intro n
  induction n with
  | zero => intro x h; cases x <;> simp_all [noTag]
  | succ n ih =>
    have hs : ∀ cs : List PV, cs.all (noTag g n) = true → cs.all (noTag g (n + 1)) = true := fun cs h => List.all_eq_true.2 fun c hc => ih c (List.all_eq_true.1 h c hc)
    intro x h
    cases x with
    | lst g' xs => simp only [noTag, Bool.and_eq_true] at h ⊢; exact ⟨h.1, hs _ h.2⟩
    | agg cs => simp only [noTag] at h ⊢; exact hs _ h
    | tuple cs => simp only [noTag] at h ⊢; exact hs _ h
    | iface t y => simp only [noTag] at h ⊢; exact ih y h
    | fn f a c => simp only [noTag, Bool.and_eq_true] at h ⊢; exact ⟨hs _ h.1, hs _ h.2⟩
    | _ => simp_all [noTag]
theorem noTag_cells {g n : Nat} {x : PV} (h : noTag g n x = true) : (cellsOf x).all (noTag g n) = true := by
  cases x with
  | agg cs =>
    cases n with
    | zero => simp [noTag] at h
    | succ n => simp only [noTag] at h; exact List.all_eq_true.2 fun c hc => noTag_succ g n c (List.all_eq_true.1 h c hc)
  | _ => simp only [cellsOf, List.all_cons, List.all_nil, Bool.and_true]; exact h

def Back (G : List Nat) (Z Z' : Sig) : Prop := ∀ vid s, Z vid = some s → Z' vid = some s ∨ ∃ g ∈ G, s.tag = some g

theorem back_RD {G : List Nat} (hb : Back G Z Z') : ∀ (n : Nat) {x : PV} {v : Value}, (∀ g ∈ G, noTag g n x = true) → RD C Z x v → RD C Z' x v := by
  intro n
  induction n with
  | zero =>
    intro x v ha hr
    cases hr with
    | lst g xs vid o cap s vcs ty hs he ht hty hr hx hl =>
      rcases hb vid s hs with h1 | ⟨g', hg', h1⟩
      · by_cases hG : G = []
        · -- nothing was lent
          subst hG
          have hb' : Z.le Z' := fun vid s hs => by
            rcases hb vid s hs with h | ⟨g, hg, _⟩
            · exact h
            · simp at hg
          exact (RD.lst g xs vid o cap s vcs ty hs he ht hty hr hx hl).mono hb'
        · obtain ⟨g', hg'⟩ := List.exists_mem_of_ne_nil G hG
          have := ha g' hg'
          simp [noTag] at this
      · have := ha g' hg'
        simp [noTag] at this
    | iface t y w h =>
      by_cases hG : G = []
      · subst hG
        have hb' : Z.le Z' := fun vid s hs => by
          rcases hb vid s hs with h | ⟨g, hg, _⟩
          · exact h
          · simp at hg
        exact (RD.iface t y w h).mono hb'
      · obtain ⟨g', hg'⟩ := List.exists_mem_of_ne_nil G hG
        have := ha g' hg'
        simp [noTag] at this
    | agg cs cs' h =>
      by_cases hG : G = []
      · subst hG
        have hb' : Z.le Z' := fun vid s hs => by
          rcases hb vid s hs with h | ⟨g, hg, _⟩
          · exact h
          · simp at hg
        exact (RD.agg cs cs' h).mono hb'
      · obtain ⟨g', hg'⟩ := List.exists_mem_of_ne_nil G hG
        have := ha g' hg'
        simp [noTag] at this
    | _ => constructor
  | succ n ih =>
    have hs : ∀ {cs : List PV} {cs' : List Value}, (∀ g ∈ G, cs.all (noTag g n) = true) → RDs C Z cs cs' → RDs C Z' cs cs' := by
      intro cs
      induction cs with
      | nil => intro cs' _ h; cases h; exact .nil
      | cons c cs ih2 =>
        intro cs' ha h
        cases h with
        | cons h r =>
          refine .cons (ih (fun g hg => ?_) h) (ih2 (fun g hg => ?_) r)
          · have := ha g hg; simp only [List.all_cons, Bool.and_eq_true] at this; exact this.1
          · have := ha g hg; simp only [List.all_cons, Bool.and_eq_true] at this; exact this.2
    intro x v ha hr
    cases hr with
    | lst g xs vid o cap s vcs ty hs1 he ht hty hr hx hl =>
      rcases hb vid s hs1 with h1 | ⟨g', hg', h1⟩
      · refine .lst g xs vid o cap s vcs ty h1 he ht hty hr (hs (fun g' hg' => ?_) hx) hl
        have := ha g' hg'
        simp only [noTag, Bool.and_eq_true] at this
        rw [List.all_flatMap]
        exact List.all_eq_true.2 fun y hy => noTag_cells (List.all_eq_true.1 this.2 y hy)
      · have h2 := ha g' hg'
        simp only [noTag, Bool.and_eq_true] at h2
        rcases ht with e | e
        · rw [e] at h1; cases h1
        · rw [h1] at e
          cases e
          simp at h2
    | iface t y w h => exact .iface t y w (ih (fun g hg => by have := ha g hg; simpa only [noTag] using this) h)
    | agg cs cs' h => exact .agg cs cs' (hs (fun g hg => by have := ha g hg; simpa only [noTag] using this) h)
    | _ => constructor
theorem back_RDs {G : List Nat} (hb : Back G Z Z') {n : Nat} {cs : List PV} {cs' : List Value} (ha : ∀ g ∈ G, cs.all (noTag g n) = true) (h : RDs C Z cs cs') : RDs C Z' cs cs' := by
  induction cs generalizing cs' with
  | nil => cases h; exact .nil
  | cons c cs ih2 =>
    cases h with
    | cons h r =>
      refine .cons (back_RD hb n (fun g hg => ?_) h) (ih2 (fun g hg => ?_) r)
      · have := ha g hg; simp only [List.all_cons, Bool.and_eq_true] at this; exact this.1
      · have := ha g hg; simp only [List.all_cons, Bool.and_eq_true] at this; exact this.2

theorem back_R {G : List Nat} (hb : Back G Z Z') (hG : G ≠ []) : ∀ (n : Nat) {x : PV} {v : Value}, (∀ g ∈ G, noTag g n x = true) → R C ρ vf Z x v → R C ρ vf Z' x v := by
  obtain ⟨g0, hg0⟩ := List.exists_mem_of_ne_nil G hG
  intro n
  induction n with
  | zero =>
    intro x v ha hr
    have h0 := ha g0 hg0
    cases hr with
    | d h => exact .d (back_RD hb 0 ha h)
    | own i ver g off len c a cap ty hi hv hp ht hq => exact .own i ver g off len c a cap ty hi hv hp ht hq
    | ptr i ver off c a hi hv hp hq => exact .ptr i ver off c a hi hv hp hq
    | eptr i ver g ix off c a ty hi hv hp ht hq => exact .eptr i ver g ix off c a ty hi hv hp ht hq
    | map i ver c w hi hv hq => exact .map i ver c w hi hv hq
    | yield i ver c w hi hv hq => exact .yield i ver c w hi hv hq
    | _ => simp [noTag] at h0
  | succ n ih =>
    have hs : ∀ {cs : List PV} {cs' : List Value}, (∀ g ∈ G, cs.all (noTag g n) = true) → Rs C ρ vf Z cs cs' → Rs C ρ vf Z' cs cs' := by
      intro cs
      induction cs with
      | nil => intro cs' _ h; cases h; exact .nil
      | cons c cs ih2 =>
        intro cs' ha h
        cases h with
        | cons h r =>
          refine .cons (ih (fun g hg => ?_) h) (ih2 (fun g hg => ?_) r)
          · have := ha g hg; simp only [List.all_cons, Bool.and_eq_true] at this; exact this.1
          · have := ha g hg; simp only [List.all_cons, Bool.and_eq_true] at this; exact this.2
    intro x v ha hr
    have h0 := ha g0 hg0
    cases hr with
    | d h => exact .d (back_RD hb (n + 1) ha h)
    | own i ver g off len c a cap ty hi hv hp ht hq => exact .own i ver g off len c a cap ty hi hv hp ht hq
    | ptr i ver off c a hi hv hp hq => exact .ptr i ver off c a hi hv hp hq
    | eptr i ver g ix off c a ty hi hv hp ht hq => exact .eptr i ver g ix off c a ty hi hv hp ht hq
    | map i ver c w hi hv hq => exact .map i ver c w hi hv hq
    | yield i ver c w hi hv hq => exact .yield i ver c w hi hv hq
    | rptr => simp [noTag] at h0
    | fn f a c a' c' h1 h2 => exact .fn f a c a' c' (hs (fun g hg => by have := ha g hg; simp only [noTag, Bool.and_eq_true] at this; exact this.1) h1) (hs (fun g hg => by have := ha g hg; simp only [noTag, Bool.and_eq_true] at this; exact this.2) h2)
    | iface t y w h => exact .iface t y w (ih (fun g hg => by have := ha g hg; simpa only [noTag] using this) h)
    | agg cs cs' h => exact .agg cs cs' (hs (fun g hg => by have := ha g hg; simpa only [noTag] using this) h)
    | tuple cs cs' h => exact .tuple cs cs' (hs (fun g hg => by have := ha g hg; simpa only [noTag] using this) h)
theorem back_R' {G : List Nat} (hb : Back G Z Z') {n : Nat} {x : PV} {v : Value} (ha : ∀ g ∈ G, noTag g n x = true) (h : R C ρ vf Z x v) : R C ρ vf Z' x v := by
  by_cases hG : G = []
  · subst hG
    refine h.mono (Ext.refl _ _) fun vid s hs => ?_
    rcases hb vid s hs with h | ⟨g, hg, _⟩
    · exact h
    · simp at hg
  · exact back_R hb hG n ha h
theorem back_Rs {G : List Nat} (hb : Back G Z Z') (hG : G ≠ []) {n : Nat} {cs : List PV} {cs' : List Value} (ha : ∀ g ∈ G, cs.all (noTag g n) = true) (h : Rs C ρ vf Z cs cs') : Rs C ρ vf Z' cs cs' := by
  induction cs generalizing cs' with
  | nil => cases h; exact .nil
  | cons c cs ih2 =>
    cases h with
    | cons h r =>
      refine .cons (back_R hb hG n (fun g hg => ?_) h) (ih2 (fun g hg => ?_) r)
      · have := ha g hg; simp only [List.all_cons, Bool.and_eq_true] at this; exact this.1
      · have := ha g hg; simp only [List.all_cons, Bool.and_eq_true] at this; exact this.2
theorem back_M {G : List Nat} (hb : Back G Z Z') (hG : G ≠ []) {n : Nat} {es : List (PV × PV)} {es' : List (Value × Value)} (ha : ∀ g ∈ G, es.all (fun e => noTag g n e.1 && noTag g n e.2) = true) (h : MRP C ρ vf Z es es') : MRP C ρ vf Z' es es' := by
  induction h with
  | nil => exact .nil
  | cons hk hv r ih =>
    have hh : ∀ g ∈ G, (noTag g n _ = true ∧ noTag g n _ = true) ∧ _ := fun g hg => by
      have := ha g hg
      simp only [List.all_cons, Bool.and_eq_true] at this
      exact this
    exact .cons (back_R hb hG n (fun g hg => (hh g hg).1.1) hk) (back_R hb hG n (fun g hg => (hh g hg).1.2) hv) (ih fun g hg => (hh g hg).2)

/-! ### flat values -/
theorem flat_R : ∀ (n : Nat) {x : PV} {v : Value}, flat n v = true → R C ρ vf Z x v → R C ρ' vf' Z' x v ∧ flatP n x = true := by
  have hD : ∀ (n : Nat) {x : PV} {v : Value}, flat n v = true → RD C Z x v → RD C Z' x v ∧ flatP n x = true := by
    intro n
    induction n with
    | zero =>
      intro x v hf hr
      cases hr with
      | lst => simp [flat] at hf
      | iface => simp [flat] at hf
      | agg => simp [flat] at hf
      | _ => exact ⟨by constructor, by simp [flatP]⟩
    | succ n ih =>
      have hs : ∀ {cs : List PV} {cs' : List Value}, cs'.all (flat n) = true → RDs C Z cs cs' → RDs C Z' cs cs' ∧ cs.all (flatP n) = true := by
        intro cs
        induction cs with
        | nil => intro cs' _ h; cases h; exact ⟨.nil, rfl⟩
        | cons c cs ih2 =>
          intro cs' ha h
          cases h with
          | cons h r =>
            simp only [List.all_cons, Bool.and_eq_true] at ha ⊢
            obtain ⟨a, b⟩ := ih ha.1 h
            obtain ⟨c, d⟩ := ih2 ha.2 r
            exact ⟨.cons a c, b, d⟩
      intro x v hf hr
      cases hr with
      | lst => simp [flat] at hf
      | iface t y w h =>
        obtain ⟨a, b⟩ := ih (by simpa only [flat] using hf) h
        exact ⟨.iface t y w a, by simpa only [flatP] using b⟩
      | agg cs cs' h =>
        obtain ⟨a, b⟩ := hs (by simpa only [flat] using hf) h
        exact ⟨.agg cs cs' a, by simpa only [flatP] using b⟩
      | _ => exact ⟨by constructor, by simp [flatP]⟩
  intro n
  induction n with
  | zero =>
    intro x v hf hr
    cases hr with
    | d h => exact ⟨.d (hD 0 hf h).1, (hD 0 hf h).2⟩
    | _ => simp [flat] at hf
  | succ n ih =>
    have hs : ∀ {cs : List PV} {cs' : List Value}, cs'.all (flat n) = true → Rs C ρ vf Z cs cs' → Rs C ρ' vf' Z' cs cs' ∧ cs.all (flatP n) = true := by
      intro cs
      induction cs with
      | nil => intro cs' _ h; cases h; exact ⟨.nil, rfl⟩
      | cons c cs ih2 =>
        intro cs' ha h
        cases h with
        | cons h r =>
          simp only [List.all_cons, Bool.and_eq_true] at ha ⊢
          obtain ⟨a, b⟩ := ih ha.1 h
          obtain ⟨c, d⟩ := ih2 ha.2 r
          exact ⟨.cons a c, b, d⟩
    intro x v hf hr
    cases hr with
    | d h => exact ⟨.d (hD (n + 1) hf h).1, (hD (n + 1) hf h).2⟩
    | iface t y w h =>
      obtain ⟨a, b⟩ := ih (by simpa only [flat] using hf) h
      exact ⟨.iface t y w a, by simpa only [flatP] using b⟩
    | agg cs cs' h =>
      obtain ⟨a, b⟩ := hs (by simpa only [flat] using hf) h
      exact ⟨.agg cs cs' a, by simpa only [flatP] using b⟩
    | tuple cs cs' h =>
      obtain ⟨a, b⟩ := hs (by simpa only [flat] using hf) h
      exact ⟨.tuple cs cs' a, by simpa only [flatP] using b⟩
    | _ => simp [flat] at hf
theorem flatP_succ : ∀ (n : Nat) (x : PV), flatP n x = true → flatP (n + 1) x = true := by
  intro n
  induction n with
  | zero => intro x h; cases x <;> simp_all [flatP]
  | succ n ih =>
    have hs : ∀ cs : List PV, cs.all (flatP n) = true → cs.all (flatP (n + 1)) = true := fun cs h => List.all_eq_true.2 fun c hc => ih c (List.all_eq_true.1 h c hc)
    intro x h
    cases x with
    | agg cs => simp only [flatP] at h ⊢; exact hs _ h
    | tuple cs => simp only [flatP] at h ⊢; exact hs _ h
    | iface t y => simp only [flatP] at h ⊢; exact ih y h
    | _ => simp_all [flatP]

/-! ### results, arguments -/
theorem resP_sim (H : HP C ρ Z vh h) (S : SR C ρ (vfOf h) Z psl vsl) : ∀ {rs : List ResultVar} {xs : List PV}, resP C psl h rs = some xs → ∃ vs, resV C vsl vh rs = some vs ∧ Rs C ρ (vfOf h) Z xs vs
  | [], xs, he => by simp only [resP, Option.some.injEq] at he; subst he; exact ⟨[], rfl, .nil⟩
  | .tmp t :: r, xs, he => by
    simp only [resP] at he
    split at he
    · rename_i p ps hp hps
      cases he
      obtain ⟨v, h1, h2⟩ := S _ _ hp
      obtain ⟨vs, h3, h4⟩ := resP_sim H S hps
      exact ⟨v :: vs, by simp only [resV, h1, h3], .cons h2 h4⟩
    · cases he
  | .cell a t :: r, xs, he => by
    simp only [resP] at he
    split at he
    · rename_i i ver off ty ps hp hty hps
      split at he
      · rename_i w cs hi
        split at he
        · rename_i e
          subst e
          rw [Option.map_eq_some_iff] at he
          obtain ⟨z, hz, rfl⟩ := he
          rw [Option.bind_eq_some_iff] at hz
          obtain ⟨q, hq, hz⟩ := hz
          obtain ⟨v, h1, h2⟩ := S _ _ hp
          have hv := h2.ptr_inv hi
          subst hv
          obtain ⟨vs, h3, h4⟩ := resP_sim H S hps
          cases H.obj _ _ _ hi with
          | cells cs vcs e2 hzz hg hr =>
            obtain ⟨q', h5, h6⟩ := hr.read hq
            obtain ⟨z', h7, h8⟩ := toP_sim h6 hz
            refine ⟨z' :: vs, ?_, .cons h8 h4⟩
            simp only [resV, h1, hty, h3, VH.load, hg, Option.isSome_none, Bool.false_eq_true, if_false, h5, Option.bind_some, h7, Option.map_some]
        · cases he
      · cases he
    · cases he
theorem oneP_sim {xs : List PV} {vs : List Value} (h : Rs C ρ vf Z xs vs) : R C ρ vf Z (oneP xs) (oneV vs) := by
  cases h with
  | nil => exact .tuple _ _ .nil
  | cons h r =>
    cases r with
    | nil => exact h
    | cons h2 r => exact .tuple _ _ (by simpa using .cons h (.cons h2 r))
theorem slGet_zip (l : List Value) (i t : Nat) : slGet (zipFrom i l) t = if i ≤ t then l[t - i]? else none := by
  induction l generalizing i with
  | nil => simp [zipFrom, slGet]
  | cons v l ih =>
    simp only [zipFrom, slGet, ih]
    by_cases h : i = t
    · subst h; simp
    · have : Nat.beq i t = false := nbeq h
      simp only [this, cond_false]
      by_cases hlt : i + 1 ≤ t
      · have h2 : t - i = (t - (i + 1)) + 1 := by omega
        simp [hlt, show i ≤ t by omega, h2]
      · simp [hlt, show ¬ i ≤ t by omega]
theorem zipP_sim {xs : List PV} {vs : List Value} (h : Rs C ρ vf Z xs vs) : SR C ρ vf Z (zipP 0 xs) (zipFrom 0 vs) := by
  intro t x hx
  simp only [zipP, Nat.zero_le, if_true, Nat.sub_zero] at hx
  rw [slGet_zip]
  simp only [Nat.zero_le, if_true, Nat.sub_zero]
  exact h.get hx

theorem foldOld_next (h3 : PH) : ∀ (ok : List Nat) (h : PH), (foldOld h3 ok h).next = h.next
  | [], h => rfl
  | i :: r, h => by
    simp only [foldOld]
    split
    · rw [foldOld_next h3 r]; rfl
    · exact foldOld_next h3 r h
theorem foldOld_get (h3 : PH) : ∀ (ok : List Nat) (h : PH) (j : Nat), (foldOld h3 ok h).get j = if j ∈ ok then (match h3.get j with | some y => some y | none => h.get j) else h.get j
  | [], h, j => by simp [foldOld]
  | i :: r, h, j => by
    simp only [foldOld]
    split
    · rename_i ver o hi
      rw [foldOld_get h3 r]
      by_cases e : j = i
      · subst e; simp [PH.put, hi]
      · simp [PH.put, e]
    · rename_i hi
      rw [foldOld_get h3 r]
      by_cases e : j = i
      · subst e; simp [hi]
      · simp [e]
end
end Go.Pure
end

section
set_option linter.unusedVariables false
set_option linter.unusedSimpArgs false
namespace Go.Pure
open Go Go.Virt

section
variable {C : Ctx} {Z Z' Z1 Z2 Z3 ZF : Sig} {ρ ρ' ρ2 : Nat → Nat} {vf vf' : Nat → Option Nat} {h h' h2 h3 : PH} {vh vh' vh2 vhF : VH} {K : Loc} {n m : Nat} {psl : PSL} {vsl : SL} {x : PV} {v w : Value}

theorem OR.back {j p nx nxF : Nat} {vf3 vfF : Nat → Option Nat} {o : PO} {G : List Nat} (O : OR C ρ2 vf3 Z3 nx vh2 j p o) (hb : belowO m o = true) (hvf : ∀ i, i < m → vfF i = vf3 i) (hB : Back G Z3 ZF) (hT : ∀ g ∈ G, noTagO g o = true)
    (hn : Z3 p = none → ZF p = none) (hs : ∀ s, Z3 p = some s → ZF p = some s) (hv : vhF.get = vh2.get) (hvn : vhF.next = vh2.next) : OR C ρ2 vfF ZF nxF vhF j p o := by
  cases O with
  | cells cs vcs e a b c =>
    refine .cells cs vcs e (hn a) (by rw [hv]; exact b) ?_
    have h1 := below_Rs hvf hb c
    by_cases hG : G = []
    · subst hG
      refine h1.mono (Ext.refl _ _) fun vid s hs => ?_
      rcases hB vid s hs with h | ⟨g, hg, _⟩
      · exact h
      · simp at hg
    · exact back_Rs hB hG (fun g hg => hT g hg) h1
  | row g xs vcs ty a b c d e =>
    refine .row g xs vcs ty a (hn b) (by rw [hv]; exact c) (back_RDs hB (n := 12) (fun g hg => ?_) d) e
    have := hT g hg
    simp only [noTagO] at this
    rw [List.all_flatMap]
    exact List.all_eq_true.2 fun y hy => noTag_cells (List.all_eq_true.1 this y hy)
  | frozen g xs s ty a b c d e f =>
    refine .frozen g xs s ty a (hs s b) c d (back_RDs hB (n := 12) (fun g hg => ?_) e) f
    have := hT g hg
    simp only [noTagO] at this
    rw [List.all_flatMap]
    exact List.all_eq_true.2 fun y hy => noTag_cells (List.all_eq_true.1 this y hy)
  | map es ves a b c =>
    refine .map es ves (hn a) (by rw [hv]; exact b) ?_
    have h1 := below_M hvf hb c
    by_cases hG : G = []
    · subst hG
      refine h1.mono (Ext.refl _ _) fun vid s hs => ?_
      rcases hB vid s hs with h | ⟨g, hg, _⟩
      · exact h
      · simp at hg
    · exact back_M hB hG (fun g hg => hT g hg) h1
  | loop => simp [belowO] at hb
  | gone a b => exact .gone (by rw [hvn]; exact a) (hn b)

theorem can_not {lo : Nat} {ok : List Nat} {base j : Nat} (h1 : j < lo) (h2 : j ∉ ok) : can { base := base, lo := lo, ok := ok } j = false := by
  unfold can
  rw [Bool.or_eq_false_iff]
  constructor
  · cases e : Nat.ble lo j
    · rfl
    · rw [Nat.ble_eq] at e; omega
  · rw [List.any_eq_false]
    intro y hy e
    rw [Nat.beq_eq] at e
    exact h2 (e ▸ hy)
theorem can_ok {K : Loc} {j : Nat} (h : j ∈ K.ok) : can K j = true := by
  unfold can
  rw [Bool.or_eq_true]
  exact .inr (List.any_eq_true.2 ⟨j, h, by simp⟩)

/-- Nothing but freezing. -/
theorem fold_frozen {g : PH} {ok : List Nat} (hx : ∀ i ∈ ok, ∃ ver o, g.get i = some (ver, o) ∧ (h3.get i = some (ver, o) ∨ ∃ g' own xs, o = .row g' own xs ∧ h3.get i = some (ver, .row g' false xs))) :
    ∃ ids2, (∀ i ∈ ids2, i ∈ ok) ∧ foldOld h3 ok g = g.freeze ids2 := by
  classical
  refine ⟨ok.filter fun i => decide (∃ ver g' own xs, g.get i = some (ver, .row g' own xs) ∧ h3.get i = some (ver, .row g' false xs)), fun i hi => (List.mem_filter.1 hi).1, ?_⟩
  have hn : (foldOld h3 ok g).next = (g.freeze (ok.filter fun i => decide (∃ ver g' own xs, g.get i = some (ver, .row g' own xs) ∧ h3.get i = some (ver, .row g' false xs)))).next := by rw [foldOld_next, freeze_next]
  have hg : (foldOld h3 ok g).get = (g.freeze (ok.filter fun i => decide (∃ ver g' own xs, g.get i = some (ver, .row g' own xs) ∧ h3.get i = some (ver, .row g' false xs)))).get := by
    funext j
    rw [foldOld_get, freeze_get]
    by_cases hj : j ∈ ok
    · rw [if_pos hj]
      obtain ⟨ver, o, h1, h2⟩ := hx j hj
      rcases h2 with h2 | ⟨g', own, xs, rfl, h2⟩
      · rw [h1, h2]
        cases o with
        | row g' own xs =>
          try dsimp only
          by_cases hm : j ∈ ok.filter fun i => decide (∃ ver g' own xs, g.get i = some (ver, .row g' own xs) ∧ h3.get i = some (ver, .row g' false xs))
          · rw [if_pos hm]
            obtain ⟨_, hd⟩ := List.mem_filter.1 hm
            obtain ⟨a, b, c, d, e1, e2⟩ := of_decide_eq_true hd
            rw [h1] at e1
            rw [h2] at e2
            cases e1; cases e2; rfl
          · rw [if_neg hm]
        | _ => rfl
      · rw [h1, h2]
        try dsimp only
        rw [if_pos]
        refine List.mem_filter.2 ⟨hj, decide_eq_true ⟨_, _, _, _, h1, h2⟩⟩
    · rw [if_neg hj]
      split
      · rename_i ver g' own xs hgj
        rw [if_neg fun hm => hj (List.mem_filter.1 hm).1, hgj]
      · rfl
  cases hA : foldOld h3 ok g
  cases hB : g.freeze (ok.filter fun i => decide (∃ ver g' own xs, g.get i = some (ver, .row g' own xs) ∧ h3.get i = some (ver, .row g' false xs)))
  rw [hA, hB] at hn hg
  simp only at hn hg
  rw [hn, hg]

structure Pre0 (C : Ctx) (K : Loc) (m : Nat) (ρ : Nat → Nat) (Z Z1 : Sig) (h : PH) (vh : VH) (ok ids : List Nat) (nx : Nat) (ρ2 : Nat → Nat) (Z3 : Sig) (h3 : PH) (vh2 : VH) : Prop where
  H : HP C ρ Z vh h
  hK : KOk K m h.next
  hok : ∀ i ∈ ok, can K i = true ∧ ∃ x, h.get i = some x
  hids : ∀ i ∈ ids, can K i = true
  f : Frz C true ρ Z h vh ids Z1
  st : St C { base := h.next, lo := h.next, ok := ok } ρ Z1 { h.freeze ids with next := nx } { vh with wr := vh.next } ρ2 Z3 h3 vh2

section
variable {ok ids : List Nat} {nx : Nat}
theorem Pre0.old (P : Pre0 C K m ρ Z Z1 h vh ok ids nx ρ2 Z3 h3 vh2) {j : Nat} (hj : j < h.next) (hn : j ∉ ok) : h3.get j = (h.freeze ids).get j := P.st.keep j (can_not hj hn)
theorem Pre0.live1 {j : Nat} {x : Nat × PO} (hx : h.get j = some x) : ∃ o, (h.freeze ids).get j = some (x.1, o) := by
  obtain ⟨ver, o⟩ := x
  rw [freeze_get, hx]
  cases o with
  | row g own xs =>
    try dsimp only
    split
    · exact ⟨_, rfl⟩
    · exact ⟨_, rfl⟩
  | _ => exact ⟨_, rfl⟩
theorem Pre0.ext (P : Pre0 C K m ρ Z Z1 h vh ok ids nx ρ2 Z3 h3 vh2) : Ext ρ (vfOf h) ρ2 (vfOf h3) := by
  have := P.st.ext
  have hv : vfOf ({ h.freeze ids with next := nx } : PH) = vfOf h := by
    rw [← freeze_vf ids h]; rfl
  rw [hv] at this
  exact this
theorem Pre0.live (P : Pre0 C K m ρ Z Z1 h vh ok ids nx ρ2 Z3 h3 vh2) {j : Nat} {x : Nat × PO} (hx : h.get j = some x) : ∃ y, h3.get j = some y := by
  obtain ⟨c', h1, _⟩ := P.ext j x.1 (vfOf_some.2 ⟨x.2, hx⟩)
  obtain ⟨o, ho⟩ := vfOf_some.1 h1
  exact ⟨_, ho⟩
theorem Pre0.rho (P : Pre0 C K m ρ Z Z1 h vh ok ids nx ρ2 Z3 h3 vh2) {j : Nat} {x : Nat × PO} (hx : h.get j = some x) (hn : j ∉ ok) : ρ2 j = ρ j := by
  obtain ⟨c', h1, _, h3'⟩ := P.ext j x.1 (vfOf_some.2 ⟨x.2, hx⟩)
  obtain ⟨o, ho⟩ := vfOf_some.1 h1
  obtain ⟨o1, ho1⟩ := Pre0.live1 (ids := ids) hx
  rw [P.old (P.H.lt _ _ hx) hn, ho1] at ho
  cases ho
  exact h3' rfl
/-- How an object that was not to be reached stands now. -/
theorem Pre0.away (P : Pre0 C K m ρ Z Z1 h vh ok ids nx ρ2 Z3 h3 vh2) {j ver : Nat} {o : PO} (hx : h.get j = some (ver, o)) (hn : j ∉ ok) {vfF : Nat → Option Nat} (hE : Ext ρ (vfOf h) ρ2 vfF) (hle : Z.le ZF) (hz : Z (ρ j) = none → ZF (ρ j) = none)
    (hv : vhF.get = vh2.get) (hvn : vh.next ≤ vhF.next) : OR C ρ2 vfF ZF h.next vhF j (ρ2 j) o := by
  rw [P.rho hx hn]
  obtain ⟨o1, ho1⟩ := Pre0.live1 (ids := ids) hx
  have hg : vh2.get (ρ j) = vh.get (ρ j) := P.st.vkeep j _ ho1 (can_not (P.H.lt _ _ hx) hn)
  exact (P.H.obj _ _ _ hx).mono hE hle hz (fun _ => by rw [hv]; exact hg) (Nat.le_refl _) hvn
/-- Rows lent and others: what the new rows' table says of an old place. -/
theorem Pre0.zold (P : Pre0 C K m ρ Z Z1 h vh ok ids nx ρ2 Z3 h3 vh2) {j ver : Nat} {o : PO} (hx : h.get j = some (ver, o)) (hn : j ∉ ok) (hz : Z (ρ j) = none) (hi : ∀ g xs, o = .row g true xs → j ∉ ids) : Z3 (ρ j) = none := by
  have h1 := P.old (P.H.lt _ _ hx) hn
  rw [freeze_get, hx] at h1
  have hsame : h3.get j = some (ver, o) := by
    rw [h1]
    cases o with
    | row g own xs =>
      cases own with
      | true => simp [hi g xs rfl]
      | false => simp
    | _ => rfl
  have h2 := P.st.hp.obj _ _ _ hsame
  rw [P.rho hx hn] at h2
  cases h2 with
  | frozen g xs s ty a b c d e f =>
    cases P.H.obj _ _ _ hx with
    | frozen g2 xs2 s2 ty2 a2 b2 => rw [b2] at hz; cases hz
  | _ => assumption

/-- The steps' marks of what a call leaves. -/
theorem Pre0.marks (P : Pre0 C K m ρ Z Z1 h vh ok ids nx ρ2 Z3 h3 vh2) {hF : PH} (hvg : vhF.get = vh2.get) (hvn : vhF.next = vh2.next) (hvw : vhF.wr = min vh.wr vh2.wr) (hp : HP C ρ2 ZF vhF hF) (hle : Z.le ZF) (hn : h.next ≤ hF.next)
    (hin : ∀ i, i ∈ ok → hF.get i = h3.get i) (hout : ∀ i, i < h.next → i ∉ ok → i ∉ ids → hF.get i = h.get i) (hlend : ∀ i, i < h.next → i ∉ ok → i ∈ ids → hF.get i = h.get i ∨ hF.get i = (h.freeze ids).get i) (hnew : ∀ i x, h.next ≤ i → hF.get i = some x → h3.get i = some x) : St C K ρ Z h vh ρ2 ZF hF vhF := by
  have hcases : ∀ i, i < h.next → i ∉ ok → hF.get i = h.get i ∨ (i ∈ ids ∧ hF.get i = (h.freeze ids).get i) := fun i h1 h2 => by
    by_cases h4 : i ∈ ids
    · rcases hlend i h1 h2 h4 with h5 | h5
      · exact .inl h5
      · exact .inr ⟨h4, h5⟩
    · exact .inl (hout i h1 h2 h4)
  have hvf : ∀ i, i < h.next → i ∉ ok → vfOf hF i = vfOf h i := fun i h1 h2 => by
    rcases hcases i h1 h2 with h4 | ⟨_, h4⟩
    · unfold vfOf; rw [h4]
    · have : vfOf (h.freeze ids) i = vfOf h i := by rw [freeze_vf]
      rw [← this]; unfold vfOf; rw [h4]
  have hlo : K.lo ≤ h.next := by have := P.hK.1; have := P.hK.2; omega
  refine ⟨hp, ?_, hle, hn, by rw [hvn]; exact P.st.vnext, by rw [hvw]; exact Nat.min_le_left _ _, ?_, ?_, ?_, ?_, ?_⟩
  · intro i c hi
    obtain ⟨o, ho⟩ := vfOf_some.1 hi
    by_cases hk : i ∈ ok
    · obtain ⟨c', h1, h2, h4⟩ := P.ext i c hi
      refine ⟨c', ?_, h2, h4⟩
      unfold vfOf at h1 ⊢
      rw [hin i hk]; exact h1
    · exact ⟨c, by rw [hvf i (P.H.lt _ _ ho) hk]; exact hi, Nat.le_refl _, fun _ => P.rho ho hk⟩
  · intro i hi
    have hk : i ∉ ok := fun hk => by rw [(P.hok i hk).1] at hi; cases hi
    have hd : i ∉ ids := fun hk => by rw [P.hids i hk] at hi; cases hi
    have hilt : i < h.next := by
      rcases Nat.lt_or_ge i h.next with h1 | h1
      · exact h1
      · unfold can at hi
        rw [Bool.or_eq_false_iff] at hi
        have : Nat.ble K.lo i = true := by rw [Nat.ble_eq]; omega
        rw [this] at hi
        cases hi.1
    exact hout i hilt hk hd
  · intro i ver o hilo ho
    have hilt := P.H.lt _ _ ho
    by_cases hk : i ∈ ok
    · rw [hin i hk]
      obtain ⟨o1, ho1⟩ := Pre0.live1 (ids := ids) ho
      have h1 := P.st.same i ver o1 hilt ho1
      have ho1' := ho1
      rw [freeze_get, ho] at ho1'
      rcases h1 with h1 | ⟨g, own, xs, rfl, h1⟩ | h1
      · cases o with
        | row g own xs =>
          simp only at ho1'
          split at ho1'
          · cases ho1'; exact .inr (.inl ⟨_, _, _, rfl, h1⟩)
          · cases ho1'; exact .inl h1
        | _ => simp only at ho1'; cases ho1'; exact .inl h1
      · cases o with
        | row g own xs =>
          simp only at ho1'
          split at ho1' <;> cases ho1' <;> exact .inr (.inl ⟨_, _, _, rfl, h1⟩)
        | _ => simp only at ho1'; cases ho1'
      · exact .inr (.inr (by rw [hvw]; exact Nat.le_trans (Nat.min_le_right _ _) h1))
    · rcases hcases i hilt hk with h4 | ⟨hd, h4⟩
      · exact .inl (h4.trans ho)
      · rw [freeze_get, ho] at h4
        cases o with
        | row g own xs =>
          simp only [hd, if_true] at h4
          exact .inr (.inl ⟨_, _, _, rfl, h4⟩)
        | _ => exact .inl h4
  · intro i x hx
    have hx3 : ∃ y, h3.get i = some y := by
      rcases Nat.lt_or_ge i h.next with h1 | h1
      · by_cases hk : i ∈ ok
        · exact ⟨x, by rw [← hin i hk]; exact hx⟩
        · have : vfOf h i = some x.1 := by rw [← hvf i h1 hk]; exact vfOf_some.2 ⟨x.2, hx⟩
          obtain ⟨o, ho⟩ := vfOf_some.1 this
          exact P.live ho
      · exact ⟨x, hnew i x h1 hx⟩
    obtain ⟨y, hy⟩ := hx3
    rcases P.st.plc i y hy with ⟨⟨z, hz⟩, h2⟩ | h2
    · refine .inl ⟨?_, h2⟩
      have : vfOf (h.freeze ids) i = some z.1 := vfOf_some.2 ⟨z.2, hz⟩
      rw [freeze_vf] at this
      obtain ⟨o, ho⟩ := vfOf_some.1 this
      exact ⟨_, ho⟩
    · exact .inr h2
  · intro i x hx hc
    have hk : i ∉ ok := fun hk => by rw [(P.hok i hk).1] at hc; cases hc
    obtain ⟨o1, ho1⟩ := Pre0.live1 (ids := ids) hx
    rw [hvg]
    exact P.st.vkeep i _ ho1 (can_not (P.H.lt _ _ hx) hk)
  · intro q hq hn hi
    rw [hvg]
    refine P.st.vnone q hq hn fun i x hx => ?_
    have : vfOf (h.freeze ids) i = some x.1 := vfOf_some.2 ⟨x.2, hx⟩
    rw [freeze_vf] at this
    obtain ⟨o, ho⟩ := vfOf_some.1 this
    exact hi i _ ho
end
end
end Go.Pure
end

section
set_option linter.unusedVariables false
set_option linter.unusedSimpArgs false
namespace Go.Pure
open Go Go.Virt

section
variable {C : Ctx} {Z Z' Z1 Z2 Z3 ZF : Sig} {ρ ρ' ρ2 : Nat → Nat} {vf vf' : Nat → Option Nat} {h h' h2 h3 : PH} {vh vh' vh2 vhF : VH} {K : Loc} {n m : Nat} {psl : PSL} {vsl : SL} {x : PV} {v w : Value} {ok ids : List Nat} {nx : Nat}

/-- Nothing was kept by the virtual run. -/
theorem Pre0.restored (P : Pre0 C K m ρ Z Z1 h vh ok ids nx ρ2 Z3 h3 vh2) (hw : vh.next ≤ vh2.wr) (b : Bool) (hb : b = true → ∀ i ∈ ids, i ∉ ok) :
    ∃ ZF, St C K ρ Z h vh ρ ZF (foldOld h3 ok (if b then h else h.freeze ids)) vh := by
  have hsame : ∀ i ∈ ok, ∃ ver o, (h.freeze ids).get i = some (ver, o) ∧ (h3.get i = some (ver, o) ∨ ∃ g' own xs, o = .row g' own xs ∧ h3.get i = some (ver, .row g' false xs)) := by
    intro i hi
    obtain ⟨hc, x, hx⟩ := P.hok i hi
    obtain ⟨o1, ho1⟩ := Pre0.live1 (ids := ids) hx
    refine ⟨x.1, o1, ho1, ?_⟩
    rcases P.st.same i x.1 o1 (P.H.lt _ _ hx) ho1 with h1 | h1 | h1
    · exact .inl h1
    · exact .inr h1
    · have := P.H.rho_lt hx
      omega
  cases b with
  | false =>
    obtain ⟨ids2, h1, h2⟩ := fold_frozen hsame
    obtain ⟨Za, fa⟩ := frz (bt := false) ids P.H
    have sa := St.frz (K := K) P.H fa (List.all_eq_true.2 P.hids)
    obtain ⟨Zb, fb⟩ := frz (bt := false) ids2 sa.hp
    have sb := St.frz (K := K) sa.hp fb (List.all_eq_true.2 fun i hi => (P.hok i (h1 i hi)).1)
    refine ⟨Zb, ?_⟩
    simp only [Bool.false_eq_true, if_false]
    rw [h2]
    exact sa.trans P.H sb
  | true =>
    have hb := hb rfl
    have hsame2 : ∀ i ∈ ok, ∃ ver o, h.get i = some (ver, o) ∧ (h3.get i = some (ver, o) ∨ ∃ g' own xs, o = .row g' own xs ∧ h3.get i = some (ver, .row g' false xs)) := by
      intro i hi
      obtain ⟨ver, o, h1, h2⟩ := hsame i hi
      refine ⟨ver, o, ?_, h2⟩
      rw [freeze_get] at h1
      split at h1
      · rename_i ver' g own xs hq
        rw [if_neg fun hm => hb i hm hi] at h1
        rw [hq]; exact h1
      · exact h1
    obtain ⟨ids2, h1, h2⟩ := fold_frozen hsame2
    obtain ⟨Zb, fb⟩ := frz (bt := false) ids2 P.H
    have sb := St.frz (K := K) P.H fb (List.all_eq_true.2 fun i hi => (P.hok i (h1 i hi)).1)
    refine ⟨Zb, ?_⟩
    simp only [if_true]
    rw [h2]
    exact sb

/-- The old objects stay, the new ones go; the lent rows are given back. -/
theorem Pre0.clean (P : Pre0 C K m ρ Z Z1 h vh ok ids nx ρ2 Z3 h3 vh2) (hvg : vhF.get = vh2.get) (hvn : vhF.next = vh2.next) (hvw : vhF.wr = min vh.wr vh2.wr) (hbel : ∀ i ∈ ok, h3.belowAt h.next i = true)
    (hcl : ∀ i ∈ ids, i ∉ ok ∧ ∃ ver g own xs, h.get i = some (ver, .row g own xs) ∧ (own = true → noTag g 14 x = true ∧ ∀ j ∈ ok, ∀ ver o, h3.get j = some (ver, o) → noTagO g o = true)) (hx : R C ρ2 (vfOf h3) Z3 x w) (hxb : below h.next 4 x = true) :
    ∃ ZF, R C ρ2 (vfOf (foldOld h3 ok h)) ZF x w ∧ St C K ρ Z h vh ρ2 ZF (foldOld h3 ok h) vhF := by
  classical
  let lent : Nat → Prop := fun vid => ∃ i ∈ ids, ∃ ver g xs, h.get i = some (ver, .row g true xs) ∧ vid = ρ i
  let ZF : Sig := fun vid => if lent vid then none else Z3 vid
  let G : List Nat := ids.filterMap fun i => match h.get i with | some (_, .row g true _) => some g | _ => none
  have hG : ∀ g ∈ G, ∃ i ∈ ids, ∃ ver xs, h.get i = some (ver, .row g true xs) := by
    intro g hg
    obtain ⟨i, hi, e⟩ := List.mem_filterMap.1 hg
    split at e
    · rename_i ver g' xs hq; cases e; exact ⟨i, hi, ver, xs, hq⟩
    · cases e
  have hGm : ∀ i ∈ ids, ∀ ver g xs, h.get i = some (ver, .row g true xs) → g ∈ G := by
    intro i hi ver g xs hq
    exact List.mem_filterMap.2 ⟨i, hi, by rw [hq]⟩
  have hzown : ∀ i ver g xs, h.get i = some (ver, .row g true xs) → Z (ρ i) = none := by
    intro i ver g xs hq
    cases P.H.obj _ _ _ hq with
    | row g xs vcs ty a b => exact b
  have hB : Back G Z3 ZF := by
    intro vid s hs
    by_cases hl : lent vid
    · obtain ⟨i, hi, ver, g, xs, hq, rfl⟩ := hl
      refine .inr ⟨g, hGm i hi ver g xs hq, ?_⟩
      have hfz := frz_get (ids := ids) hi hq
      cases P.f.hp.obj _ _ _ hfz with
      | frozen g xs s1 ty a b c d e f =>
        have := P.st.sig _ _ b
        rw [hs] at this
        cases this
        rcases P.f.new _ _ b with h1 | ⟨_, i', hi', ver', g', xs', hq', e1, e2⟩
        · rw [hzown i _ _ _ hq] at h1; cases h1
        · have : i = i' := P.H.inj _ _ _ _ hq hq' e1
          subst this
          rw [hq] at hq'
          cases hq'
          exact e2
    · exact .inl (by simp only [ZF, hl, if_false]; exact hs)
  have hle : Z.le ZF := by
    intro vid s hs
    have hl : ¬ lent vid := fun ⟨i, hi, ver, g, xs, hq, e⟩ => by rw [e, hzown i _ _ _ hq] at hs; cases hs
    simp only [ZF, hl, if_false]
    exact P.st.sig _ _ (P.f.le _ _ hs)
  have hin : ∀ i, i ∈ ok → (foldOld h3 ok h).get i = h3.get i := fun i hi => by
    obtain ⟨_, y, hy⟩ := P.hok i hi
    obtain ⟨z, hz⟩ := P.live hy
    rw [foldOld_get, if_pos hi, hz]
  have hout : ∀ i, i ∉ ok → (foldOld h3 ok h).get i = h.get i := fun i hi => by rw [foldOld_get, if_neg hi]
  have hvfF : ∀ i, i < h.next → vfOf (foldOld h3 ok h) i = vfOf h3 i := by
    intro i hi
    by_cases hk : i ∈ ok
    · unfold vfOf; rw [hin i hk]
    · have e1 : vfOf (foldOld h3 ok h) i = vfOf h i := by unfold vfOf; rw [hout i hk]
      have e2 : vfOf h3 i = vfOf (h.freeze ids) i := by unfold vfOf; rw [P.old hi hk]
      rw [e1, e2, freeze_vf]
  have hE : Ext ρ (vfOf h) ρ2 (vfOf (foldOld h3 ok h)) := by
    intro i c hi
    obtain ⟨o, ho⟩ := vfOf_some.1 hi
    obtain ⟨c', h1, h2, h4⟩ := P.ext i c hi
    exact ⟨c', by rw [hvfF i (P.H.lt _ _ ho)]; exact h1, h2, h4⟩
  have hlive : ∀ i y, (foldOld h3 ok h).get i = some y → i < h.next ∧ ∃ z, h3.get i = some z := by
    intro i y hy
    by_cases hk : i ∈ ok
    · obtain ⟨_, q, hq⟩ := P.hok i hk
      exact ⟨P.H.lt _ _ hq, y, by rw [← hin i hk]; exact hy⟩
    · rw [hout i hk] at hy
      exact ⟨P.H.lt _ _ hy, P.live hy⟩
  have hnotlent : ∀ j y, h3.get j = some y → j ∈ ok → ¬ lent (ρ2 j) := by
    intro j y hy hj ⟨i, hi, ver, g, xs, hq, e⟩
    have hik := (hcl i hi).1
    obtain ⟨z, hz⟩ := P.live hq
    rw [← P.rho hq hik] at e
    have := P.st.hp.inj _ _ _ _ hy hz e
    exact hik (this ▸ hj)
  have hp : HP C ρ2 ZF vhF (foldOld h3 ok h) := by
    refine ⟨fun i y hy => by rw [foldOld_next]; exact (hlive i y hy).1, ?_, fun i y hy => by rw [hvn]; exact P.st.hp.vlt i y (by rw [← hvg]; exact hy), ?_, ?_, ?_⟩
    · intro i j y z hy hz e
      obtain ⟨_, y', hy'⟩ := hlive i y hy
      obtain ⟨_, z', hz'⟩ := hlive j z hz
      exact P.st.hp.inj _ _ _ _ hy' hz' e
    · intro vid s hs
      simp only [ZF] at hs
      split at hs
      · cases hs
      · rw [hvg]; exact P.st.hp.sig _ _ hs
    · intro j ver o hj
      rw [foldOld_next]
      by_cases hk : j ∈ ok
      · rw [hin j hk] at hj
        have hb := hbel j hk
        simp only [PH.belowAt, hj] at hb
        refine (P.st.hp.obj _ _ _ hj).back hb (fun i hi => hvfF i hi) hB (fun g hg => ?_) (fun hz => by simp only [ZF]; split <;> first | rfl | exact hz) (fun s hs => by simp only [ZF, hnotlent j _ hj hk, if_false]; exact hs) hvg hvn
        obtain ⟨i, hi, ver', xs, hq⟩ := hG g hg
        obtain ⟨_, ver2, g2, own2, xs2, hq2, hT⟩ := hcl i hi
        rw [hq] at hq2
        cases hq2
        exact (hT rfl).2 j hk ver o hj
      · rw [hout j hk] at hj
        refine P.away hj hk hE hle (fun hz => ?_) hvg (by rw [hvn]; exact P.st.vnext)
        by_cases hl : lent (ρ j)
        · simp only [ZF, hl, if_true]
        · simp only [ZF, hl, if_false]
          exact P.zold hj hk hz fun g xs e hi => hl ⟨j, hi, ver, g, xs, by rw [hj, e], rfl⟩
    · rw [hvw, hvn]
      exact Nat.le_trans (Nat.min_le_right _ _) P.st.hp.wr
  refine ⟨ZF, ?_, P.marks hvg hvn hvw hp hle (by rw [foldOld_next]; exact Nat.le_refl _) hin (fun i _ hk _ => hout i hk) (fun i _ hk _ => .inl (hout i hk)) (fun i y hi hy => absurd (hlive i y hy).1 (by omega))⟩
  refine back_R' hB (n := 14) (fun g hg => ?_) (below_R (fun i hi => hvfF i hi) 4 hxb hx)
  obtain ⟨i, hi, ver', xs, hq⟩ := hG g hg
  obtain ⟨_, ver2, g2, own2, xs2, hq2, hT⟩ := hcl i hi
  rw [hq] at hq2
  cases hq2
  exact (hT rfl).1

/-- The old objects stay, the new ones go; the lent rows stay frozen. -/
theorem Pre0.frozen (P : Pre0 C K m ρ Z Z1 h vh ok ids nx ρ2 Z3 h3 vh2) (hvg : vhF.get = vh2.get) (hvn : vhF.next = vh2.next) (hvw : vhF.wr = min vh.wr vh2.wr) (hbel : ∀ i ∈ ok, h3.belowAt h.next i = true)
    (hx : R C ρ2 (vfOf h3) Z3 x w) (hxb : below h.next 4 x = true) :
    ∃ ZF, R C ρ2 (vfOf (foldOld h3 ok (h.freeze ids))) ZF x w ∧ St C K ρ Z h vh ρ2 ZF (foldOld h3 ok (h.freeze ids)) vhF := by
  have hle : Z.le Z3 := fun vid s hs => P.st.sig _ _ (P.f.le _ _ hs)
  have hB : Back [] Z3 Z3 := fun vid s hs => .inl hs
  have hin : ∀ i, i ∈ ok → (foldOld h3 ok (h.freeze ids)).get i = h3.get i := fun i hi => by
    obtain ⟨_, y, hy⟩ := P.hok i hi
    obtain ⟨z, hz⟩ := P.live hy
    rw [foldOld_get, if_pos hi, hz]
  have hout : ∀ i, i ∉ ok → (foldOld h3 ok (h.freeze ids)).get i = (h.freeze ids).get i := fun i hi => by rw [foldOld_get, if_neg hi]
  have hvfF : ∀ i, i < h.next → vfOf (foldOld h3 ok (h.freeze ids)) i = vfOf h3 i := by
    intro i hi
    by_cases hk : i ∈ ok
    · unfold vfOf; rw [hin i hk]
    · unfold vfOf; rw [hout i hk, P.old hi hk]
  have hE : Ext ρ (vfOf h) ρ2 (vfOf (foldOld h3 ok (h.freeze ids))) := by
    intro i c hi
    obtain ⟨o, ho⟩ := vfOf_some.1 hi
    obtain ⟨c', h1, h2, h4⟩ := P.ext i c hi
    exact ⟨c', by rw [hvfF i (P.H.lt _ _ ho)]; exact h1, h2, h4⟩
  have hfl : ∀ i y, (h.freeze ids).get i = some y → ∃ z, h.get i = some z := by
    intro i y hy
    have : vfOf (h.freeze ids) i = some y.1 := vfOf_some.2 ⟨y.2, hy⟩
    rw [freeze_vf] at this
    obtain ⟨o, ho⟩ := vfOf_some.1 this
    exact ⟨_, ho⟩
  have hlive : ∀ i y, (foldOld h3 ok (h.freeze ids)).get i = some y → i < h.next ∧ h3.get i = some y := by
    intro i y hy
    by_cases hk : i ∈ ok
    · obtain ⟨_, q, hq⟩ := P.hok i hk
      exact ⟨P.H.lt _ _ hq, by rw [← hin i hk]; exact hy⟩
    · rw [hout i hk] at hy
      obtain ⟨z, hz⟩ := hfl i y hy
      have hlt := P.H.lt _ _ hz
      exact ⟨hlt, by rw [P.old hlt hk]; exact hy⟩
  have hnx : (foldOld h3 ok (h.freeze ids)).next = h.next := by rw [foldOld_next, freeze_next]
  have hp : HP C ρ2 Z3 vhF (foldOld h3 ok (h.freeze ids)) := by
    refine ⟨fun i y hy => by rw [hnx]; exact (hlive i y hy).1, ?_, fun i y hy => by rw [hvn]; exact P.st.hp.vlt i y (by rw [← hvg]; exact hy), ?_, ?_, ?_⟩
    · intro i j y z hy hz e
      exact P.st.hp.inj _ _ _ _ (hlive i y hy).2 (hlive j z hz).2 e
    · intro vid s hs; rw [hvg]; exact P.st.hp.sig _ _ hs
    · intro j ver o hj
      rw [hnx]
      have hj3 := (hlive j _ hj).2
      have O3 := P.st.hp.obj _ _ _ hj3
      by_cases hk : j ∈ ok
      · have hb := hbel j hk
        simp only [PH.belowAt, hj3] at hb
        exact O3.back hb (fun i hi => hvfF i hi) hB (fun g hg => by simp at hg) id (fun s hs => hs) hvg hvn
      · rw [hout j hk] at hj
        obtain ⟨z, hz⟩ := hfl j _ hj
        by_cases hrow : ∃ g own xs, o = .row g own xs
        · obtain ⟨g, own, xs, rfl⟩ := hrow
          cases O3 with
          | row g xs vcs ty a b c d e => exact .row g xs vcs ty a b (by rw [hvg]; exact c) d e
          | frozen g xs s ty a b c d e f => exact .frozen g xs s ty a b c d e f
        · have hz' : h.get j = some (ver, o) := by
            rw [freeze_get, hz] at hj
            obtain ⟨zv, zo⟩ := z
            cases zo with
            | row g own xs =>
              simp only at hj
              split at hj <;> cases hj <;> exact absurd ⟨_, _, _, rfl⟩ hrow
            | _ => cases hj; exact hz
          exact P.away hz' hk hE hle (fun hz0 => P.zold hz' hk hz0 fun g xs e _ => hrow ⟨g, true, xs, e⟩) hvg (by rw [hvn]; exact P.st.vnext)
    · rw [hvw, hvn]
      exact Nat.le_trans (Nat.min_le_right _ _) P.st.hp.wr
  refine ⟨Z3, below_R (fun i hi => hvfF i hi) 4 hxb hx, P.marks hvg hvn hvw hp hle (by rw [hnx]; exact Nat.le_refl _) hin (fun i _ hk hd => ?_) (fun i _ hk hd => .inr (hout i hk)) (fun i y hi hy => absurd (hlive i y hy).1 (by omega))⟩
  rw [hout i hk, freeze_get]
  split
  · rename_i ver g own xs hq; rw [if_neg hd, hq]
  · rfl

/-- Everything stays. -/
theorem Pre0.whole (P : Pre0 C K m ρ Z Z1 h vh ok ids nx ρ2 Z3 h3 vh2) (hvg : vhF.get = vh2.get) (hvn : vhF.next = vh2.next) (hvw : vhF.wr = min vh.wr vh2.wr) (hnx : h.next ≤ nx) : St C K ρ Z h vh ρ2 Z3 h3 vhF := by
  have hp : HP C ρ2 Z3 vhF h3 := P.st.hp.sub rfl (fun i x hx => P.st.hp.lt i x hx) hvg (by rw [hvn]; exact Nat.le_refl _) (by rw [hvw, hvn]; exact Nat.le_trans (Nat.min_le_right _ _) P.st.hp.wr)
  refine P.marks hvg hvn hvw hp (fun vid s hs => P.st.sig _ _ (P.f.le _ _ hs)) ?_ (fun _ _ => rfl) (fun i hi hk hd => ?_) (fun i hi hk _ => .inr (P.old hi hk)) (fun _ _ _ h => h)
  · exact Nat.le_trans hnx P.st.next
  · rw [P.old hi hk, freeze_get]
    split
    · rename_i ver g own xs hq; rw [if_neg hd, hq]
    · rfl

theorem settle_sim (H : HP C ρ Z vh h) (hK : KOk K m h.next) (hok : ∀ i ∈ ok, can K i = true ∧ ∃ x, h.get i = some x) (hids : ∀ i ∈ ids, can K i = true) (f : Frz C true ρ Z h vh ids Z1) (H1 : HP C ρ Z1 { vh with wr := vh.next } { h.freeze ids with next := nx }) (hnx : h.next ≤ nx)
    (st : St C { base := h.next, lo := h.next, ok := ok } ρ Z1 { h.freeze ids with next := nx } { vh with wr := vh.next } ρ2 Z2 h2 vh2) (hx : R C ρ2 (vfOf h2) Z2 x w) {r : PV × PH} (he : settleP h h2 ok ids x = some r) :
    Sim1 C K ρ Z h vh r.1 r.2 (some (Virt.settle false vh w vh2)) := by
  unfold settleP at he
  split at he
  · cases he
  · rename_i x' hinl
    try dsimp only at he
    split at he
    · rename_i hcan
      obtain ⟨Z3, f3⟩ := frz (bt := false) (ownT x) st.hp
      have st3 := St.frz (K := { base := h.next, lo := h.next, ok := ok }) st.hp f3 hcan
      have stt := st.trans H1 st3
      have hx' : R C ρ2 (vfOf (h2.freeze (ownT x))) Z3 x' w := inlT_sim f3.hp (fun i ver g own xs hm hg => frz_get hm hg) hinl (hx.mono st3.ext st3.sig)
      have P : Pre0 C K m ρ Z Z1 h vh ok ids nx ρ2 Z3 (h2.freeze (ownT x)) vh2 := ⟨H, hK, hok, hids, f, stt⟩
      by_cases hres : flat 4 w = true ∧ vh.next ≤ vh2.wr
      · -- the virtual run restores
        have hset : Virt.settle false vh w vh2 = (w, vh) := by
          unfold Virt.settle
          rw [if_pos]
          simp only [Bool.not_false, Bool.true_and, Bool.and_eq_true, Nat.ble_eq]
          exact hres
        rw [hset]
        have hfl := flat_R (C := C) (ρ := ρ2) (vf := vfOf (h2.freeze (ownT x))) (Z := Z3) (ρ' := ρ2) (vf' := fun _ => none) (Z' := Z3) 4 hres.1 hx'
        split at he
        · split at he
          · rename_i hb hcl
            cases he
            obtain ⟨ZF, hst⟩ := P.restored hres.2 true fun _ i hi => by
              have := List.all_eq_true.1 hcl i hi
              rw [Bool.and_eq_true, Bool.not_eq_true'] at this
              intro hk
              rw [List.any_eq_false] at this
              exact this.1 i hk (by simp)
            exact ⟨w, vh, ρ, ZF, rfl, (flat_R 4 hres.1 hx').1, hst⟩
          · cases he
            obtain ⟨ZF, hst⟩ := P.restored hres.2 false (fun e => by cases e)
            exact ⟨w, vh, ρ, ZF, rfl, (flat_R 4 hres.1 hx').1, hst⟩
        · split at he
          · rename_i hkeep hev
            exfalso
            rw [Bool.or_eq_true] at hev
            rcases hev with hev | hev
            · rw [flatP_succ 4 x' hfl.2] at hev
              cases hev
            · obtain ⟨i, hi, hev⟩ := List.any_eq_true.1 hev
              rw [Bool.and_eq_true, Bool.not_eq_true'] at hev
              obtain ⟨_, ⟨ver, o⟩, hxx⟩ := hok i hi
              have hlt := H.lt _ _ hxx
              obtain ⟨o1, ho1⟩ := Pre0.live1 (ids := ids) hxx
              have hb1 : belowO h.next o1 = true := by
                have h5 := hev.2
                simp only [PH.belowAt, hxx] at h5
                have ho2 := ho1
                rw [freeze_get, hxx] at ho2
                cases o with
                | row g own xs =>
                  simp only at ho2
                  split at ho2 <;> cases ho2 <;> rfl
                | _ => simp only at ho2; cases ho2; exact h5
              rcases stt.same i ver o1 hlt ho1 with h1 | ⟨g, own, xs, rfl, h1⟩ | h1
              · have h5 := hev.1
                simp only [PH.belowAt, h1, hb1] at h5
                cases h5
              · have h5 := hev.1
                simp only [PH.belowAt, h1] at h5
                cases h5
              · have := H.rho_lt hxx
                omega
          · cases he
      · have hset : Virt.settle false vh w vh2 = (w, { vh2 with wr := min vh.wr vh2.wr }) := by
          unfold Virt.settle
          rw [if_neg]
          simp only [Bool.not_false, Bool.true_and, Bool.and_eq_true, Nat.ble_eq]
          exact hres
        rw [hset]
        split at he
        · rename_i hkeep
          rw [Bool.and_eq_true] at hkeep
          have hbel : ∀ i ∈ ok, (h2.freeze (ownT x)).belowAt h.next i = true := fun i hi => List.all_eq_true.1 hkeep.2 i hi
          split at he
          · rename_i hcl
            cases he
            obtain ⟨ZF, hR, hst⟩ := P.clean (vhF := { vh2 with wr := min vh.wr vh2.wr }) rfl rfl rfl hbel (fun i hi => by
              have h5 := List.all_eq_true.1 hcl i hi
              rw [Bool.and_eq_true, Bool.not_eq_true'] at h5
              refine ⟨fun hk => ?_, ?_⟩
              · have := h5.1
                rw [List.any_eq_false] at this
                exact this i hk (by simp)
              · have h6 := h5.2
                split at h6
                · rename_i ver g xs hq
                  refine ⟨ver, g, true, xs, hq, fun _ => ?_⟩
                  rw [Bool.and_eq_true] at h6
                  refine ⟨h6.1, fun j hj ver o ho => ?_⟩
                  have := List.all_eq_true.1 h6.2 j hj
                  rw [ho] at this
                  exact this
                · rename_i ver g xs hq
                  exact ⟨ver, g, false, xs, hq, fun e => by cases e⟩
                · cases h6) hx' hkeep.1
            exact ⟨w, _, ρ2, ZF, rfl, hR, hst⟩
          · cases he
            obtain ⟨ZF, hR, hst⟩ := P.frozen (vhF := { vh2 with wr := min vh.wr vh2.wr }) rfl rfl rfl hbel hx' hkeep.1
            exact ⟨w, _, ρ2, ZF, rfl, hR, hst⟩
        · split at he
          · cases he
            exact ⟨w, _, ρ2, Z3, rfl, hx', P.whole rfl rfl rfl hnx⟩
          · cases he
    · cases he
end
end Go.Pure
end

section
set_option linter.unusedVariables false
set_option linter.unusedSimpArgs false
namespace Go.Pure
open Go Go.Virt

/-! ### the slots of a virtual run -/
def Grow (sl sl' : SL) : Prop := ∃ e, sl'.map Prod.fst = sl.map Prod.fst ++ e
theorem Grow.refl (sl : SL) : Grow sl sl := ⟨[], by simp⟩
theorem Grow.trans {a b c : SL} (h : Grow a b) (k : Grow b c) : Grow a c := by
  obtain ⟨e, h⟩ := h
  obtain ⟨f, k⟩ := k
  exact ⟨e ++ f, by rw [k, h, List.append_assoc]⟩
theorem grow_put (sl : SL) (d : Nat) (v : Value) : Grow sl (slPut sl d v) := by
  induction sl with
  | nil => exact ⟨[d], rfl⟩
  | cons x sl ih =>
    obtain ⟨k, u⟩ := x
    simp only [slPut]
    cases Nat.beq k d with
    | true => exact ⟨[], by simp⟩
    | false =>
      obtain ⟨e, he⟩ := ih
      exact ⟨e, by simp [he]⟩
theorem grow_putV (sl : SL) (d : Option Nat) (v : Value) : Grow sl (putV sl d v) := by
  cases d with
  | none => exact .refl _
  | some d => exact grow_put sl d v
theorem grow_ops {C : Ctx} {cf yf : Nat → List Value → VH → Option (Value × VH)} {all : List Oper} : ∀ {l : List Oper} {sl sl' : SL} {h h' : VH}, opsV C cf yf all l sl h = some (sl', h') → Grow sl sl'
  | [], sl, sl', h, h', he => by simp only [opsV, Option.some.injEq, Prod.mk.injEq] at he; rw [he.1]; exact .refl _
  | o :: l, sl, sl', h, h', he => by
    simp only [opsV] at he
    split at he
    · split at he
      · exact (grow_putV _ _ _).trans (grow_ops he)
      · cases he
    · exact (grow_putV _ _ _).trans (grow_ops he)
    · cases he
theorem grow_step {C : Ctx} {cf yf : Nat → List Value → VH → Option (Value × VH)} {B M : Nat} {all : List Oper} {masks : Array Nat} {o : Oper} {i : Nat} {st st' : DSt} (he : stepD C cf yf B M all masks o i st = some st') : Grow st.sl st'.sl := by
  unfold stepD at he
  try dsimp only at he
  split at he
  · cases he
  · cases he; exact grow_putV _ _ _
  · split at he
    · cases he; exact grow_putV _ _ _
    · split at he
      · cases he
      · split at he
        · cases he
        · split at he <;> cases he <;> exact grow_putV _ _ _
theorem grow_pass {C : Ctx} {cf yf : Nat → List Value → VH → Option (Value × VH)} {B M : Nat} {all : List Oper} {masks : Array Nat} : ∀ {l : List Oper} {i : Nat} {st st' : DSt}, passD C cf yf B M all masks l i st = some st' → Grow st.sl st'.sl
  | [], i, st, st', he => by simp only [passD, Option.some.injEq] at he; subst he; exact .refl _
  | o :: l, i, st, st', he => by
    simp only [passD] at he
    split at he
    · rename_i s hs
      exact (grow_step hs).trans (grow_pass he)
    · cases he
theorem grow_draw {C : Ctx} {cf yf : Nat → List Value → VH → Option (Value × VH)} {ops : Array Oper} {sl sl' : SL} {h h' : VH} (he : drawV C cf yf ops sl h = some (sl', h')) : Grow sl sl' := by
  unfold drawV at he
  try dsimp only at he
  split at he
  · cases he
  · rename_i st hp
    have := grow_pass hp
    split at he
    · cases he
    · split at he
      · cases he; exact this
      · cases he
theorem grow_take {sl sl' : SL} (h : Grow sl sl') : (sl'.take sl.length).map Prod.fst = sl.map Prod.fst := by
  obtain ⟨e, he⟩ := h
  rw [List.map_take, he]
  simp
theorem grow_exec {C : Ctx} : ∀ (n : Nat) (rng : Bool) (code : Code) (sl sl' : SL) (h h' : VH) (x : Ex), Virt.exec C n rng code sl h = some (x, sl', h') → Grow sl sl' := by
  intro n
  induction n with
  | zero => intro rng code sl sl' h h' x he; simp [Virt.exec] at he
  | succ n ih =>
    intro rng code sl sl' h h' x he
    cases code with
    | region id ops draw =>
      rw [Virt.exec] at he
      try dsimp only at he
      rw [Option.map_eq_some_iff] at he
      obtain ⟨⟨a, b⟩, hx, e⟩ := he
      simp only [Prod.mk.injEq] at e
      obtain ⟨_, rfl, _⟩ := e
      cases draw with
      | true => simp only [if_true] at hx; exact grow_draw hx
      | false => simp only [Bool.false_eq_true, if_false] at hx; exact grow_ops hx
    | seq a b =>
      rw [Virt.exec] at he
      try dsimp only at he
      split at he
      · rename_i sl1 h1 hx
        exact (ih _ _ _ _ _ _ _ hx).trans (ih _ _ _ _ _ _ _ he)
      · exact ih _ _ _ _ _ _ _ he
    | cond c a b =>
      rw [Virt.exec] at he
      try dsimp only at he
      split at he
      · exact ih _ _ _ _ _ _ _ he
      · exact ih _ _ _ _ _ _ _ he
      · cases he
    | block id b =>
      rw [Virt.exec] at he
      try dsimp only at he
      split at he
      · rename_i id' sl1 h1 hx
        have := ih _ _ _ _ _ _ _ hx
        split at he <;> cases he <;> exact this
      · exact ih _ _ _ _ _ _ _ he
    | loop b =>
      rw [Virt.exec] at he
      try dsimp only at he
      split at he
      · rename_i sl1 h1 hx
        have h1 := ih _ _ _ _ _ _ _ hx
        have h2 := ih _ _ _ _ _ _ _ he
        exact Grow.trans ⟨[], by rw [grow_take h1]; simp⟩ h2
      · exact ih _ _ _ _ _ _ _ he
    | rangeFunc f ps as bd =>
      rw [Virt.exec] at he
      try dsimp only at he
      split at he
      · split at he
        · split at he
          · split at he
            · cases he; exact .refl _
            · cases he
          · cases he
        · cases he
      · cases he
    | skip => simp only [Virt.exec, Option.some.injEq, Prod.mk.injEq] at he; rw [he.2.1]; exact .refl _
    | exit id => simp only [Virt.exec, Option.some.injEq, Prod.mk.injEq] at he; rw [he.2.1]; exact .refl _
    | ret => simp only [Virt.exec, Option.some.injEq, Prod.mk.injEq] at he; rw [he.2.1]; exact .refl _
    | _ => simp [Virt.exec] at he

theorem slGet_some {sl : SL} {t : Nat} {v : Value} (h : slGet sl t = some v) : t ∈ sl.map Prod.fst := by
  induction sl with
  | nil => simp [slGet] at h
  | cons x sl ih =>
    obtain ⟨k, u⟩ := x
    simp only [slGet] at h
    cases e : Nat.beq k t with
    | true => simp [Nat.eq_of_beq_eq_true e]
    | false => rw [e] at h; simp [ih h]
theorem slGet_take {sl : SL} {t k : Nat} (h : t ∈ (sl.take k).map Prod.fst) : slGet (sl.take k) t = slGet sl t := by
  induction sl generalizing k with
  | nil => simp
  | cons x sl ih =>
    cases k with
    | zero => simp at h
    | succ k =>
      obtain ⟨j, u⟩ := x
      simp only [List.take_succ_cons, slGet]
      cases e : Nat.beq j t with
      | true => rfl
      | false =>
        simp only [List.take_succ_cons, List.map_cons, List.mem_cons] at h
        rcases h with h | h
        · subst h; simp at e
        · exact ih h

section
variable {C : Ctx} {Z Z' Z1 : Sig} {ρ ρ' : Nat → Nat} {vf vf' : Nat → Option Nat} {h h' : PH} {vh vh' : VH} {K : Loc} {n m : Nat} {psl psl' : PSL} {vsl vsl' : SL}

theorem SR.keep (S0 : SR C ρ vf Z psl vsl) (S : SR C ρ' vf' Z' psl' vsl') (hg : Grow vsl vsl') : SR C ρ' vf' Z' (keepP psl psl') (vsl'.take vsl.length) := by
  intro t x hx
  unfold keepP at hx
  split at hx
  · rename_i y hy
    obtain ⟨v0, h0, _⟩ := S0 _ _ hy
    obtain ⟨v, h1, h2⟩ := S _ _ hx
    refine ⟨v, ?_, h2⟩
    rw [slGet_take]
    · exact h1
    · rw [grow_take hg]; exact slGet_some h0
  · cases hx

/-- What is asked of what runs code. -/
def ExSim (C : Ctx) (pex : Loc → Code → PSL → PH → Option (Ex × PSL × PH)) (ex : Code → SL → VH → Option (Ex × SL × VH)) : Prop :=
  ∀ K m code psl h x psl' h', pex K code psl h = some (x, psl', h') → okDstP m code = true → ∀ (ρ : Nat → Nat) (Z : Sig) (vh : VH) (vsl : SL), HP C ρ Z vh h → KOk K m h.next → SR C ρ (vfOf h) Z psl vsl →
    ∃ vsl' vh' ρ' Z', ex code vsl vh = some (x, vsl', vh') ∧ SR C ρ' (vfOf h') Z' psl' vsl' ∧ St C K ρ Z h vh ρ' Z' h' vh'

structure COkP (C : Ctx) : Prop where
  ext : ∀ f a, a ≠ [] → C.ext f a = none
  extP : ∀ f v, C.ext f [] = some v → (pconst 0 v).isSome = true
  code : ∀ f fn c, C.F f = some fn → fn.body = some c → okDstP fn.ntmps c = true

theorem mapO_inl (H : HP C ρ Z vh h) {ids : List Nat} (f : Frz C true ρ Z h vh ids Z1) {nx : Nat} : ∀ {args args' : List PV} {vargs : List Value}, (∀ a ∈ args, ∀ i ∈ ownV a, i ∈ ids) → mapO (inlV h) args = some args' →
    Rs C ρ (vfOf h) Z args vargs → Rs C ρ (vfOf ({ h.freeze ids with next := nx } : PH)) Z1 args' vargs
  | [], args', vargs, _, ha, hr => by
    simp only [mapO, Option.some.injEq] at ha; subst ha; cases hr; exact .nil
  | a :: l, args', vargs, hm, ha, hr => by
    simp only [mapO] at ha
    split at ha
    · rename_i y ys hy hys
      cases ha
      have hv : vfOf ({ h.freeze ids with next := nx } : PH) = vfOf (h.freeze ids) := rfl
      cases hr with
      | cons h1 r =>
        refine .cons ?_ (mapO_inl H f (fun a ha => hm a (by simp [ha])) hys r)
        rw [hv]
        have h1' := h1.mono (Ext.refl _ _) f.sig
        rw [← freeze_vf ids h] at h1'
        exact inlV_sim f.hp (fun i ver g own xs hi hq => frz_get (hm a (by simp) i hi) hq) hy h1'
    · cases ha

theorem callF_sim (hC : COkP C) {pex : Loc → Code → PSL → PH → Option (Ex × PSL × PH)} {ex : Code → SL → VH → Option (Ex × SL × VH)} (hex : ExSim C pex ex) (K : Loc) (m : Nat) : CfSim C K m (callF C pex) (Virt.callF C ex) := by
  intro f args h r he ρ Z vh vargs H hK hargs
  unfold callF at he
  unfold Virt.callF
  split at he
  · rename_i x hx
    cases he
    cases args with
    | cons a l => simp [extP] at hx
    | nil =>
      cases hargs
      simp only [extP, Option.bind_eq_some_iff] at hx
      obtain ⟨w, h1, h2⟩ := hx
      rw [h1]
      exact ⟨w, vh, ρ, Z, rfl, .d (pconst_simD 0 w h2), St.refl H⟩
  rename_i hext
  have hext' : C.ext f vargs = none := by
    cases hargs with
    | cons h1 h2 => exact hC.ext f _ (by simp)
    | nil =>
      cases e : C.ext f [] with
      | none => rfl
      | some w =>
        have := hC.extP f w e
        simp only [extP, e, Option.bind_some] at hext
        rw [hext] at this
        cases this
  rw [hext']
  try dsimp only
  split at he
  · cases he
  · rename_i fn hF
    rw [hF]
    try dsimp only
    split at he
    · cases he
    · rename_i c hbody
      rw [hbody]
      try dsimp only
      have hcode := hC.code _ _ _ hF hbody
      split at he
      · -- handed on as it is
        rename_i hraw
        have H1 : HP C ρ Z { vh with wr := vh.next } { h with next := h.next + fn.ntmps } := H.sub rfl (fun i x hx => Nat.lt_of_lt_of_le (H.lt i x hx) (Nat.le_add_right _ _)) rfl (Nat.le_refl _) (Nat.le_refl _)
        have hlo : K.lo ≤ h.next := by have := hK.1; have := hK.2; omega
        have key : ∀ x sl' h2, pex { base := h.next, lo := K.lo, ok := K.ok } c (zipP 0 args) { h with next := h.next + fn.ntmps } = some (x, sl', h2) → (match resP C sl' h2 fn.results.toList with
            | none => none
            | some vs => if h2.next = h.next + fn.ntmps ∧ freshIn h2 h.next h2.next = true then some (oneP vs, { h2 with next := h.next }) else some (oneP vs, h2)) = some r →
            ∃ vsl' vh2, ex c (zipFrom 0 vargs) { vh with wr := vh.next } = some (x, vsl', vh2) ∧ Sim1 C K ρ Z h vh r.1 r.2 ((resV C vsl' vh2 fn.results.toList).map fun vs => Virt.settle (C.raw f) vh (oneV vs) vh2) := by
          intro x sl' h2 hp hr
          obtain ⟨vsl', vh2, ρ2, Z2, e1, S2, st⟩ := hex _ _ _ _ _ _ _ _ hp hcode ρ Z _ (zipFrom 0 vargs) H1 ⟨hlo, Nat.le_refl _⟩ (zipP_sim hargs)
          refine ⟨vsl', vh2, e1, ?_⟩
          split at hr
          · cases hr
          · rename_i vs hres
            obtain ⟨vvs, hv1, hv2⟩ := resP_sim st.hp S2 hres
            have hone := oneP_sim hv2
            rw [hv1, hraw]
            have hset : Virt.settle true vh (oneV vvs) vh2 = (oneV vvs, { vh2 with wr := min vh.wr vh2.wr }) := by
              unfold Virt.settle
              simp
            simp only [Option.map_some]
            rw [hset]
            have base : ∀ hF : PH, hF.get = h2.get → h.next ≤ hF.next → (∀ i x, hF.get i = some x → i < hF.next) → St C K ρ Z h vh ρ2 Z2 hF { vh2 with wr := min vh.wr vh2.wr } := by
              intro hF hg hn hlt
              have hvf : vfOf hF = vfOf h2 := by unfold vfOf; rw [hg]
              refine ⟨st.hp.sub hg (fun i x hx => hlt i x (by rw [hg]; exact hx)) rfl (Nat.le_refl _) (Nat.le_trans (Nat.min_le_right _ _) st.hp.wr), by rw [hvf]; exact st.ext, st.sig, hn, st.vnext, Nat.min_le_left _ _, fun i hi => by rw [hg]; exact st.keep i hi, fun i ver o hlo ho => ?_, fun i x hx => st.plc i x (by rw [← hg]; exact hx), fun i x hx hc => st.vkeep i x hx hc, fun q hq hn hi => st.vnone q hq hn hi⟩
              rw [hg]
              rcases st.same i ver o hlo ho with h5 | h5 | h5
              · exact .inl h5
              · exact .inr (.inl h5)
              · exact .inr (.inr (Nat.le_trans (Nat.min_le_right _ _) h5))
            split at hr
            · rename_i hfr
              cases hr
              have hlt : ∀ i x, h2.get i = some x → i < h.next := by
                intro i x hx
                rcases Nat.lt_or_ge i h.next with h5 | h5
                · exact h5
                · exfalso
                  have h6 := st.hp.lt i x hx
                  have h7 := List.all_eq_true.1 hfr.2 (i - h.next) (List.mem_range.2 (by omega))
                  rw [show h.next + (i - h.next) = i by omega, hx] at h7
                  cases h7
              exact ⟨oneV vvs, _, ρ2, Z2, rfl, hone, base _ rfl (Nat.le_refl _) hlt⟩
            · cases hr
              exact ⟨oneV vvs, _, ρ2, Z2, rfl, hone, base _ rfl (Nat.le_trans (Nat.le_add_right _ _) st.next) st.hp.lt⟩
        split at he
        · rename_i sl' h2 hp
          obtain ⟨vsl', vh2, e1, e2⟩ := key _ _ _ hp he
          rw [e1]
          exact e2
        · rename_i sl' h2 hp
          obtain ⟨vsl', vh2, e1, e2⟩ := key _ _ _ hp he
          rw [e1]
          exact e2
        · cases he
      · rename_i hraw
        try dsimp only at he
        split at he
        · cases he
        · rename_i args' hinl
          split at he
          · rename_i hchk
            rw [Bool.and_eq_true] at hchk
            obtain ⟨Z1, fz⟩ := frz (bt := true) (args.flatMap ownV) H
            have hnx : h.next ≤ h.next + fn.ntmps := Nat.le_add_right _ _
            have H1 : HP C ρ Z1 { vh with wr := vh.next } { h.freeze (args.flatMap ownV) with next := h.next + fn.ntmps } := fz.hp.sub rfl (fun i x hx => by have := fz.hp.lt i x hx; rw [freeze_next] at this; exact Nat.lt_of_lt_of_le this hnx) rfl (Nat.le_refl _) (Nat.le_refl _)
            have hargs' := mapO_inl (nx := h.next + fn.ntmps) H fz (fun a ha i hi => List.mem_flatMap.2 ⟨a, ha, hi⟩) hinl hargs
            have hok : ∀ i ∈ reach h 4 (args'.flatMap (refs 3)), can K i = true ∧ ∃ x, h.get i = some x := fun i hi => by
              have := List.all_eq_true.1 hchk.1 i hi
              rw [Bool.and_eq_true] at this
              exact ⟨this.1, Option.isSome_iff_exists.1 this.2⟩
            have hids : ∀ i ∈ args.flatMap ownV, can K i = true := fun i hi => List.all_eq_true.1 hchk.2 i hi
            have hrw : C.raw f = false := by simpa using hraw
            have key : ∀ x sl' h2, pex { base := h.next, lo := h.next, ok := reach h 4 (args'.flatMap (refs 3)) } c (zipP 0 args') { h.freeze (args.flatMap ownV) with next := h.next + fn.ntmps } = some (x, sl', h2) →
                (match resP C sl' h2 fn.results.toList with
                | none => none
                | some vs => settleP h h2 (reach h 4 (args'.flatMap (refs 3))) (args.flatMap ownV) (oneP vs)) = some r →
                ∃ vsl' vh2, ex c (zipFrom 0 vargs) { vh with wr := vh.next } = some (x, vsl', vh2) ∧ Sim1 C K ρ Z h vh r.1 r.2 ((resV C vsl' vh2 fn.results.toList).map fun vs => Virt.settle (C.raw f) vh (oneV vs) vh2) := by
              intro x sl' h2 hp hr
              obtain ⟨vsl', vh2, ρ2, Z2, e1, S2, st⟩ := hex _ _ _ _ _ _ _ _ hp hcode ρ Z1 _ (zipFrom 0 vargs) H1 ⟨Nat.le_refl _, Nat.le_refl _⟩ (zipP_sim hargs')
              refine ⟨vsl', vh2, e1, ?_⟩
              split at hr
              · cases hr
              · rename_i vs hres
                obtain ⟨vvs, hv1, hv2⟩ := resP_sim st.hp S2 hres
                rw [hv1, hrw]
                exact settle_sim H hK hok hids fz H1 hnx st (oneP_sim hv2) hr
            split at he
            · rename_i sl' h2 hp
              obtain ⟨vsl', vh2, e1, e2⟩ := key _ _ _ hp he
              rw [e1]
              exact e2
            · rename_i sl' h2 hp
              obtain ⟨vsl', vh2, e1, e2⟩ := key _ _ _ hp he
              rw [e1]
              exact e2
            · cases he
          · cases he

/-! ### rounds -/
theorem putsP_sim {ps : List Nat} : ∀ {psl : PSL} {vsl : SL} {xs : List PV} {vs : List Value}, SR C ρ vf Z psl vsl → Rs C ρ vf Z xs vs → SR C ρ vf Z (putsP psl (ps.zip xs)) (putAll vsl (ps.zip vs)) := by
  induction ps with
  | nil => intro psl vsl xs vs S _; simpa [putsP, putAll] using S
  | cons p ps ih =>
    intro psl vsl xs vs S h
    cases h with
    | nil => simpa [putsP, putAll] using S
    | cons h r => simp only [List.zip_cons_cons, putsP, putAll]; exact ih (S.put p h) r

theorem St.wider {K K0 : Loc} {Z' : Sig} (st : St C K0 ρ Z h vh ρ' Z' h' vh') (hlo : K.lo ≤ K0.lo) (hc : ∀ i, can K0 i = true → can K i = true) : St C K ρ Z h vh ρ' Z' h' vh' :=
  ⟨st.hp, st.ext, st.sig, st.next, st.vnext, st.wr, fun i hi => st.keep i (by cases e : can K0 i with | false => rfl | true => rw [hc i e] at hi; cases hi), fun i ver o hl => st.same i ver o (Nat.lt_of_lt_of_le hl hlo), st.plc, fun i x hx hi => st.vkeep i x hx (by cases e : can K0 i with | false => rfl | true => rw [hc i e] at hi; cases hi), st.vnone⟩

/-- The loop at place i comes or goes. -/
theorem pobj_swap (H : HP C ρ Z vh h) {i ver : Nat} {ob0 ob : PO} {vo : Option VO} (hi : h.get i = some (ver, ob0)) (hlo : K.lo ≤ i) (hz : Z (ρ i) = none)
    (ho : ∀ ρ' vf', Ext ρ (vfOf h) ρ' vf' → OR C ρ' vf' Z h.next (vh.put (ρ i) vo) i (ρ i) ob) :
    St C K ρ Z h vh (fun j => if j = i then ρ i else ρ j) Z (h.put i ver ob) (vh.put (ρ i) vo) := by
  refine HP.change H (H.lt _ _ hi) (by unfold can; rw [Bool.or_eq_true, Nat.ble_eq]; exact .inl hlo) (fun w o' hw => ?_) (H.rho_lt hi) (.inl ⟨_, hi, rfl⟩) (Nat.le_refl _) (Nat.le_refl _) (fun h1 _ => by omega) (fun q hq _ => ?_) (fun _ _ => .inl hz) hz (fun q y hq => ?_) (fun ρ' vf' _ _ he => ho ρ' vf' he)
  · rw [hi] at hw
    cases hw
    exact ⟨Nat.le_refl _, fun _ => rfl⟩
  · simp [VH.put, nbeq hq]
  · by_cases e : q = ρ i
    · subst e; exact H.rho_lt hi
    · simp only [VH.put, nbeq e, cond_false] at hq
      exact H.vlt _ _ hq

theorem rho_same {i : Nat} : (fun j => if j = i then ρ i else ρ j) = ρ := by
  funext j
  by_cases e : j = i
  · simp [e]
  · simp [e]

theorem yieldF_sim {pex : Loc → Code → PSL → PH → Option (Ex × PSL × PH)} {ex : Code → SL → VH → Option (Ex × SL × VH)} (hex : ExSim C pex ex) (K : Loc) (m : Nat) : YfSim C K m (Pure.yieldF pex) (Virt.yieldF ex) := by
  intro l ver args h r he ρ Z vh vargs w H hK hargs hw
  unfold Pure.yieldF at he
  split at he
  · rename_i w0 K0 sl0 ps as bd hl
    split at he
    · rename_i hc
      obtain ⟨rfl, hlen, hlo, hok⟩ := hc
      have hwv : w = .func (.yield (ρ l)) #[] #[] := by
        cases hw with
        | d h => cases h
        | yield i ver c p hi hv ha =>
          rw [vfOf_some.2 ⟨_, hl⟩] at hi
          cases hi
          rw [ha rfl]
      refine ⟨ρ l, hwv, ?_⟩
      rw [Nat.ble_eq] at hlo
      cases H.obj _ _ _ hl with
      | loop K0 n sl vsl ps as bd hz hg hsl hK0 hb h1 h2 =>
        unfold Virt.yieldF
        rw [hg]
        try dsimp only
        rw [if_pos (by rw [hargs.length]; exact hlen)]
        have hKl : K.lo ≤ l := by omega
        have hcan : ∀ i, can K0 i = true → can K i = true := by
          intro i hi
          unfold can at hi
          rw [Bool.or_eq_true] at hi
          rcases hi with hi | hi
          · rw [Nat.ble_eq] at hi
            unfold can
            rw [Bool.or_eq_true, Nat.ble_eq]
            exact .inl (by omega)
          · obtain ⟨y, hy, e⟩ := List.any_eq_true.1 hi
            rw [Nat.beq_eq] at e
            subst e
            exact List.all_eq_true.1 hok _ hy
        have st0 := pobj_swap (K := K) (ob := .gone) (vo := none) H hl hKl hz fun ρ' vf' _ => .gone (H.rho_lt hl) hz
        rw [rho_same] at st0
        have hKOk : KOk K0 n h.next := ⟨hK0, by have := H.lt _ _ hl; omega⟩
        have S0 := putsP_sim (ps := ps) (hsl.mono st0.ext st0.sig) (Rs.mono st0.ext st0.sig hargs)
        split at he
        · rename_i sl1 h1' hx1
          obtain ⟨vsl1, vh1, ρ1, Z1, a1, a2, a3⟩ := hex _ _ _ _ _ _ _ _ hx1 h1 ρ Z _ _ st0.hp hKOk S0
          rw [a1]
          try dsimp only
          split at he
          · rename_i sl2 h2' hx2
            obtain ⟨vsl2, vh2, ρ2, Z2, b1, b2, b3⟩ := hex _ _ _ _ _ _ _ _ hx2 h2 ρ1 Z1 _ _ a3.hp ⟨hKOk.1, Nat.le_trans hKOk.2 a3.next⟩ a2
            rw [b1]
            try dsimp only
            split at he
            · rename_i w2 hgone
              split at he
              · rename_i e
                subst e
                cases he
                have st2 : St C K ρ Z h vh ρ2 Z2 h2' vh2 := (st0.trans H (a3.wider hlo hcan)).trans H (b3.wider hlo hcan)
                have hrho : ρ2 l = ρ l := by
                  obtain ⟨c', q1, _, q3⟩ := st2.ext l w2 (vfOf_some.2 ⟨_, hl⟩)
                  rw [vfOf_some.2 ⟨_, hgone⟩] at q1
                  cases q1
                  exact q3 rfl
                have hz2 : Z2 (ρ2 l) = none := by
                  cases st2.hp.obj _ _ _ hgone with
                  | gone q1 q2 => exact q2
                have st3 := pobj_swap (K := K) (ob := .loop K0 sl0 ps as bd) (vo := some (.loop vsl ps as bd)) st2.hp hgone hKl hz2 fun ρ' vf' hE => .loop K0 n sl0 vsl ps as bd hz2 (by simp [VH.put]) ((hsl.mono st2.ext st2.sig).mono hE (Sig.le.refl _)) hK0 hb h1 h2
                rw [rho_same, hrho] at st3
                exact ⟨.bool true, _, _, _, rfl, .d (.bool true), st2.trans H st3⟩
              · cases he
            · cases he
          · cases he
        · cases he
    · cases he
  · cases he

/-! ### everything -/
def DrawSim (C : Ctx) : Prop := ∀ (K : Loc) (n : Nat) (pcf : CF) (pyf : YF) (cf yf : Nat → List Value → VH → Option (Value × VH)), CfSim C K n pcf cf → YfSim C K n pyf yf → FrOk cf → FrOk yf → ∀ (ops : Array Oper) (psl : PSL) (vsl : SL) (h : PH) (vh : VH) (ρ : Nat → Nat) (Z : Sig) (q : PSL × PH), HP C ρ Z vh h →
  SR C ρ (vfOf h) Z psl vsl → KOk K n h.next → (∀ o ∈ ops.toList, ∀ d, o.dst = some d → d < n) → drawOk ops = true → drawP C pcf pyf K ops psl h = some q → ∃ vsl' vh' ρ' Z', drawV C cf yf ops vsl vh = some (vsl', vh') ∧ SR C ρ' (vfOf q.2) Z' q.1 vsl' ∧ St C K ρ Z h vh ρ' Z' q.2 vh'

theorem exec_sim (hC : COkP C) (hD : DrawSim C) : ∀ n rng, ExSim C (fun K => Pure.exec C n K rng) (Virt.exec C n rng) := by
  intro n
  induction n with
  | zero => intro rng K m code psl h x psl' h' he; simp [Pure.exec] at he
  | succ n ih =>
    intro rng K m code psl h x psl' h' he hcode ρ Z vh vsl H hK S
    replace he : Pure.exec C (n + 1) K rng code psl h = some (x, psl', h') := he
    have hcf := callF_sim hC (ih true) K m
    have hyf := yieldF_sim (ih false) K m
    have hi := ih rng
    cases code with
    | skip => rw [Pure.exec] at he; cases he; exact ⟨vsl, vh, ρ, Z, by rw [Virt.exec], S, St.refl H⟩
    | exit id => rw [Pure.exec] at he; cases he; exact ⟨vsl, vh, ρ, Z, by rw [Virt.exec], S, St.refl H⟩
    | ret => rw [Pure.exec] at he; cases he; exact ⟨vsl, vh, ρ, Z, by rw [Virt.exec], S, St.refl H⟩
    | region id ops draw =>
      rw [Pure.exec] at he
      try dsimp only at he
      rw [Option.map_eq_some_iff] at he
      obtain ⟨⟨a, b⟩, hx, e⟩ := he
      simp only [Prod.mk.injEq] at e
      obtain ⟨rfl, rfl, rfl⟩ := e
      have hd : ∀ o ∈ ops.toList, ∀ d, o.dst = some d → d < m := fun o ho d hd => by
        have := List.all_eq_true.1 (by simp only [okDstP, Bool.and_eq_true] at hcode; exact hcode.1) o ho
        simp only [hd] at this
        exact Nat.blt_eq ▸ this
      rw [Virt.exec]
      try dsimp only
      cases draw with
      | true =>
        simp only [if_true] at hx ⊢
        obtain ⟨vsl', vh', ρ', Z', a1, a2, a3⟩ := hD K m _ _ _ _ hcf hyf (VFr.callF (VFr.exec n true)) (VFr.yieldF (VFr.exec n false)) ops psl vsl h vh ρ Z _ H S hK hd (by simp only [okDstP, Bool.and_eq_true, Bool.not_true, Bool.false_or] at hcode; exact hcode.2) hx
        exact ⟨vsl', vh', ρ', Z', by rw [a1]; rfl, a2, a3⟩
      | false =>
        simp only [Bool.false_eq_true, if_false] at hx ⊢
        obtain ⟨vsl', vh', ρ', Z', a1, a2, a3⟩ := opsP_sim hcf hyf ops.toList H S hK hd hx
        exact ⟨vsl', vh', ρ', Z', by rw [a1]; rfl, a2, a3⟩
    | seq a b =>
      simp only [okDstP, Bool.and_eq_true] at hcode
      rw [Pure.exec] at he
      try dsimp only at he
      rw [Virt.exec]
      try dsimp only
      split at he
      · rename_i sl1 h1 hx
        obtain ⟨vsl1, vh1, ρ1, Z1, a1, a2, a3⟩ := hi _ _ _ _ _ _ _ _ hx hcode.1 ρ Z vh vsl H hK S
        rw [a1]
        try dsimp only
        obtain ⟨vsl2, vh2, ρ2, Z2, b1, b2, b3⟩ := hi _ _ _ _ _ _ _ _ he hcode.2 ρ1 Z1 vh1 vsl1 a3.hp ⟨hK.1, Nat.le_trans hK.2 a3.next⟩ a2
        exact ⟨vsl2, vh2, ρ2, Z2, b1, b2, a3.trans H b3⟩
      · rename_i hne
        obtain ⟨vsl1, vh1, ρ1, Z1, a1, a2, a3⟩ := hi _ _ _ _ _ _ _ _ he hcode.1 ρ Z vh vsl H hK S
        rw [a1]
        cases x with
        | normal => exact absurd he (hne _ _)
        | exit id => exact ⟨vsl1, vh1, ρ1, Z1, rfl, a2, a3⟩
        | ret => exact ⟨vsl1, vh1, ρ1, Z1, rfl, a2, a3⟩
    | cond c a b =>
      simp only [okDstP, Bool.and_eq_true] at hcode
      rw [Pure.exec] at he
      try dsimp only at he
      rw [Virt.exec]
      try dsimp only
      split at he
      · rename_i hc
        obtain ⟨w, h1, h2⟩ := opdP_sim' S hc
        rw [h1, h2.bool_inv]
        exact hi _ _ _ _ _ _ _ _ he hcode.1 ρ Z vh vsl H hK S
      · rename_i hc
        obtain ⟨w, h1, h2⟩ := opdP_sim' S hc
        rw [h1, h2.bool_inv]
        exact hi _ _ _ _ _ _ _ _ he hcode.2 ρ Z vh vsl H hK S
      · cases he
    | block id b =>
      rw [Pure.exec] at he
      try dsimp only at he
      rw [Virt.exec]
      try dsimp only
      split at he
      · rename_i id' sl1 h1 hx
        obtain ⟨vsl1, vh1, ρ1, Z1, a1, a2, a3⟩ := hi _ _ _ _ _ _ _ _ hx hcode ρ Z vh vsl H hK S
        rw [a1]
        try dsimp only
        split at he
        · rename_i e
          cases he
          exact ⟨vsl1, vh1, ρ1, Z1, by rw [if_pos e], a2, a3⟩
        · rename_i e
          cases he
          exact ⟨vsl1, vh1, ρ1, Z1, by rw [if_neg e], a2, a3⟩
      · rename_i hne
        obtain ⟨vsl1, vh1, ρ1, Z1, a1, a2, a3⟩ := hi _ _ _ _ _ _ _ _ he hcode ρ Z vh vsl H hK S
        rw [a1]
        cases x with
        | exit id => exact absurd he (hne _ _ _)
        | normal => exact ⟨vsl1, vh1, ρ1, Z1, rfl, a2, a3⟩
        | ret => exact ⟨vsl1, vh1, ρ1, Z1, rfl, a2, a3⟩
    | loop b =>
      rw [Pure.exec] at he
      try dsimp only at he
      rw [Virt.exec]
      try dsimp only
      split at he
      · rename_i sl1 h1 hx
        obtain ⟨vsl1, vh1, ρ1, Z1, a1, a2, a3⟩ := hi _ _ _ _ _ _ _ _ hx hcode ρ Z vh vsl H hK S
        rw [a1]
        try dsimp only
        obtain ⟨vsl2, vh2, ρ2, Z2, b1, b2, b3⟩ := hi _ _ _ _ _ _ _ _ he hcode ρ1 Z1 vh1 _ a3.hp ⟨hK.1, Nat.le_trans hK.2 a3.next⟩ (S.keep a2 (grow_exec _ _ _ _ _ _ _ _ a1))
        exact ⟨vsl2, vh2, ρ2, Z2, b1, b2, a3.trans H b3⟩
      · rename_i hne
        obtain ⟨vsl1, vh1, ρ1, Z1, a1, a2, a3⟩ := hi _ _ _ _ _ _ _ _ he hcode ρ Z vh vsl H hK S
        rw [a1]
        cases x with
        | normal => exact absurd he (hne _ _)
        | exit id => exact ⟨vsl1, vh1, ρ1, Z1, rfl, a2, a3⟩
        | ret => exact ⟨vsl1, vh1, ρ1, Z1, rfl, a2, a3⟩
    | rangeFunc f ps as bd =>
      simp only [okDstP, Bool.and_eq_true] at hcode
      rw [Pure.exec] at he
      try dsimp only at he
      rw [Virt.exec]
      try dsimp only
      split at he
      · rename_i hr
        rw [if_pos hr]
        split at he
        · rename_i g first captured hf
          obtain ⟨w, hw1, hw2⟩ := opdP_sim' S hf
          cases hw2 with
          | d h => cases h
          | fn g first captured a' c' r1 r2 =>
            rw [hw1]
            try dsimp only
            split at he
            · rename_i hraw
              split at he
              · rename_i u h2 hcall
                -- the loop is laid
                have H1 : HP C ρ Z vh { h with next := h.next + 1 } := H.sub rfl (fun i x hx => Nat.lt_succ_of_lt (H.lt i x hx)) rfl (Nat.le_refl _) H.wr
                have hnone : h.get h.next = none := by
                  cases e : h.get h.next with
                  | none => rfl
                  | some y => exact absurd (H.lt _ _ e) (Nat.lt_irrefl _)
                have hKl : K.lo ≤ h.next := by have := hK.1; have := hK.2; omega
                have hcan : can K h.next = true := by unfold can; rw [Bool.or_eq_true, Nat.ble_eq]; exact .inl hKl
                have hgetn : ∀ q, q ≠ vh.next → (vh.new (.loop vsl ps.toList as bd)).get q = vh.get q := fun q hq => by simp [VH.new, nbeq hq]
                have stL := HP.change (K := K) (vh' := vh.new (.loop vsl ps.toList as bd)) (ver' := 0) (p := vh.next) (o := .loop K psl ps.toList as bd) H1 (i := h.next) (Nat.lt_succ_self _) hcan (fun ver o' hh => by
                    have hh' : h.get h.next = some (ver, o') := hh
                    rw [hnone] at hh'; cases hh') (by simp [VH.new]) (.inr (Nat.le_refl _)) (by simp [VH.new]) (Nat.le_refl _) (fun hlt => by omega)
                  (fun q hq _ => hgetn q hq) (fun y hy => by
                    have hy' : h.get h.next = some y := hy
                    rw [hnone] at hy'; cases hy') (sig_new H) (fun q y hq => by
                      by_cases e : q = vh.next
                      · subst e; simp [VH.new]
                      · rw [hgetn q e] at hq
                        have := H.vlt _ _ hq
                        simp only [VH.new]; omega) (fun ρ' vf' _ _ hE => .loop K m psl vsl ps.toList as bd (sig_new H) (by simp [VH.new]) (S.mono hE (Sig.le.refl _)) hK.1 hK.2 hcode.1 hcode.2)
                have stL' : St C K ρ Z h vh (fun j => if j = h.next then vh.next else ρ j) Z ({ h.put h.next 0 (.loop K psl ps.toList as bd) with next := h.next + 1 } : PH) (vh.new (.loop vsl ps.toList as bd)) :=
                  ⟨stL.hp, stL.ext, stL.sig, Nat.le_succ _, stL.vnext, stL.wr, fun i hi => stL.keep i hi, fun i ver o hlo ho => stL.same i ver o hlo ho, fun i x hx => stL.plc i x hx, fun i x hx hc => stL.vkeep i x hx hc, fun q hq hn hi => stL.vnone q hq hn hi⟩
                have hyv : R C (fun j => if j = h.next then vh.next else ρ j) (vfOf ({ h.put h.next 0 (.loop K psl ps.toList as bd) with next := h.next + 1 } : PH)) Z (.yield h.next 0) (.func (.yield vh.next) #[] #[]) := .yield h.next 0 0 vh.next (by simp [vfOf, PH.put]) (Nat.le_refl _) (fun _ => by simp)
                obtain ⟨v, vh2, ρ2, Z2, q1, q2, q3⟩ := hcf g _ _ _ hcall _ _ _ (a'.toList ++ [.func (.yield vh.next) #[] #[]] ++ c'.toList) stL'.hp ⟨hK.1, Nat.le_succ_of_le hK.2⟩ (((r1.mono stL'.ext stL'.sig).append (.cons hyv .nil)).append (r2.mono stL'.ext stL'.sig))
                have q1' : Virt.callF C (Virt.exec C n true) g (a'.toList ++ [Value.func (Fn.yield vh.next) #[] #[]] ++ c'.toList) (vh.new (.loop vsl ps.toList as bd)) = some (v, vh2) := q1
                rw [q1']
                try dsimp only
                split at he
                · rename_i K1 sl1 ps1 as1 bd1 hl
                  cases he
                  have st2 := stL'.trans H q3
                  have hrho : ρ2 h.next = vh.next := by
                    obtain ⟨c1, k1, _, k3⟩ := q3.ext h.next 0 (by simp [vfOf, PH.put])
                    rw [vfOf_some.2 ⟨_, hl⟩] at k1
                    cases k1
                    have := k3 rfl
                    simpa using this
                  cases q3.hp.obj _ _ _ hl with
                  | loop K1 n1 sl1 vsl1 ps1 as1 bd1 z1 g1 s1 k1 b1 d1 d2 =>
                    rw [hrho] at g1 z1
                    rw [g1]
                    try dsimp only
                    have st3 := pobj_swap (K := K) (ob := .gone) (vo := none) q3.hp hl hKl (by rw [hrho]; exact z1) fun ρ' vf' _ => .gone (q3.hp.rho_lt hl) (by rw [hrho]; exact z1)
                    rw [rho_same, hrho] at st3
                    have st4 := st2.trans H st3
                    exact ⟨vsl, _, ρ2, Z2, rfl, S.mono st4.ext st4.sig, st4⟩
                · cases he
              · cases he
            · cases he
        · cases he
      · cases he
    | _ => simp [Pure.exec] at he
end
end Go.Pure
end
