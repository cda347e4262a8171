/- SubstFresh answers true, whatever the names and the number are, and they read as they did. Condition: what the arguments hold is of bulk at most 1048576. -/
import Derived.Test.YtabcdhcpilpojaaGreatDoorCards
import Derived.Test.YtabcdhcpilpojaaGreatDoorTie
import Derived.WalkKit
import Derived.ProofKit
import Derived.OpenShut
import Derived.SliceStrings
import Derived.ChangeMaps5
import Derived.Carry
import Derived.Deep.DeepHandedRow
import Derived.Deep.DeepWitnessRowRef
import Derived.Lib.LaidTab
import Derived.Test.YtabcdhcpilpojaaGreatDoorPD
import Derived.Test.YtabcdhcpilpojaaGreatDoorOkpm
import Derived.Test.YtabcdhcpilpojaaGreatDoorFn
section
set_option linter.unusedSimpArgs false
set_option linter.unusedVariables false
namespace Go.Proofs.YtabcdhcpilpojaaGreatDoor.substFresh
open Go.ChangeShapes Go.WideShapes Go.ChangeAt Go.RowKit Go.Virt Go.Pure

theorem own : ownKnob Tryz.prog.godebug = none := by kernel_rfl
theorem laidOut : laidOutB Tryz.prog = true := by kernel_rfl
def nats (s : ByteArray) : List Nat := s.data.toList.map UInt8.toNat

theorem has_cells {P : Program} {w : World} {r : Reach} {b : Nat} {a : Addr} {e : TypeId} {n : Nat} (h : w.has P r b a e n) : a.spot = none ∧ ∃ c el fr, w.heap[a.block]? = some (.cells c el fr) := by
  obtain ⟨_, h1, row, cells, h2, _⟩ := h
  refine ⟨h1, ?_⟩
  unfold World.shape? at h2
  split at h2
  · rename_i c el fr hc
    exact ⟨c, el, fr, hc⟩
  all_goals cases h2

theorem pconst_string (s : ByteArray) : pconst 0 (.string s) = some (.str (nats s)) := rfl
theorem pconst_int (n : Int) : pconst 0 (.int .i64 n) = some (.int .i64 n) := rfl

theorem rds_strs {Z : Sig} : ∀ (l : List ByteArray), RDs vE Z ((l.map fun s => PV.str (nats s)).flatMap cellsOf) (l.map Value.string)
  | [] => .nil
  | s :: l => .cons (.str s) (rds_strs l)

theorem readN_all (cs : List Value) (n : Nat) (h : n = cs.length) : Virt.readN cs 0 n = some cs := by
  subst h
  simp [Virt.readN]
theorem cell_at {w : World} {ab ao : Nat} {c : Array Value} {el : TypeId} {fr : Nat × Nat} (h : w.heap[ab]? = some (.cells c el fr)) (j : Nat) : w.cell? (({ block := ab, off := ao, spot := none } : Addr).add j) = c[ao + j]? := by
  unfold World.cell? Addr.add
  by_cases hj : j = 0
  · subst hj; simp [h]
  · simp [hj, h]

theorem bulk_len {H : Type} : ∀ (l : List (DataW H)), l.length ≤ Rows.uptoBulkAll l
  | [] => Nat.le_refl _
  | d :: l => by
    have h1 := bulk_len l
    have h2 : 1 ≤ Rows.uptoBulk d := by
      cases d with
      | lit l => cases l <;> simp [Rows.uptoBulk]
      | _ => simp [Rows.uptoBulk]
    simp only [List.length_cons, Rows.uptoBulkAll]
    omega

set_option maxRecDepth 100000 in
theorem contract (H : Type) (enc : TypeId × Value → H) (W : World) (base : Nat) (args : Array Value) (ds gs : List (DataW H)) (before : List MemPlace)
    (hval : ∀ (j : Nat) t v, Tryz.f5.params[j]? = some t → args[j]? = some v → Value.okWide Tryz.prog W .any base t v)
    (hW : DataW.Whole enc Tryz.prog Tryz.f5.params.toList Rows.substFreshSpec.vars false W args.toList ds gs before) (hk : Rows.uptoSmall H (ds ++ gs) = true) :
    Calls Tryz.prog 5 args W fun e W' => ∃ v, e = .returned v ∧ Rows.substFreshSpec.post enc Tryz.prog Tryz.f5 false true false false W args v W' := by
  have hW' := hW
  obtain ⟨p, q, hA0, hV, rfl, hfz, hnd⟩ := hW
  have hA : DataW.TrodAll enc Tryz.prog W 0 (fun _ => true) true Tryz.f5.params.toList args.toList ds p := hA0
  rw [Tryz.params5] at hA hval
  obtain ⟨v0, vs0, d0, ds0, p0, q0, hargs, rfl, rfl, h0, r0⟩ := trodAll_cons hA
  obtain ⟨v1, vs1, d1, ds1, p1, q1, rfl, rfl, rfl, h1, r1⟩ := trodAll_cons r0
  obtain ⟨v2, vs2, d2, ds2, p2, q2, rfl, rfl, rfl, h2, r2⟩ := trodAll_cons r1
  obtain ⟨rfl, rfl, rfl⟩ := trodAll_nil r2
  obtain rfl : args = #[v0, v1, v2] := by cases args; simp_all
  obtain ⟨rfl, rfl⟩ := trodVars_none hV
  obtain ⟨s, rfl, rfl, rfl, hs⟩ := Go.ChangeMaps.open_string Tryz.underlying9 (hval 0 9 v0 rfl rfl) h0
  obtain ⟨n, rfl, rfl, rfl, w2⟩ := open_int Tryz.underlying3 (hval 2 3 v2 rfl rfl) h2
  obtain ⟨a0, len, cap, rfl⟩ := okWide_slice Tryz.underlying41 (hval 1 41 v1 rfl rfl)
  clear hA0
  simp only [List.append_nil, List.nil_append] at hW' hk
  have hlt : ∀ x ∈ p1, x.block < W.heap.size := fun x hx => by simpa using hW'.lt x hx
  have hbulk := of_decide_eq_true hk
  have h1k := h1
  -- the answer
  have key : Calls Tryz.prog 5 #[.string s, .slice a0 len cap, .int .i64 n] W fun e w' => e = .returned (.bool true) ∧ Below W.heap.size W w' := by
    obtain ⟨fuel, hf⟩ := h1
    have hb : (nats s).length ≤ 2 ^ 20 := by
      simp only [Rows.uptoBulkAll, Rows.uptoBulk] at hbulk
      simp only [nats, List.length_map]
      omega
    rcases open_strings Tryz.underlying41 Tryz.underlying9 (by kernel_rfl) hf with ⟨hcs, hx⟩ | ⟨a, len', cap', ss, hcs, _, hl, hm, hz, hx, hcell, hsz⟩
    · simp only [Value.cells, List.cons.injEq, and_true] at hcs
      have hc : (Value.slice a0 len cap) = .slice none 0 0 := by simpa using hcs
      rw [hc]
      exact (calls_plain (rows := []) (us := [.string s, .slice none 0 0, .int .i64 n]) vESound vEOkP rfl (law_5n (nats s) [] n rfl (by simp) hb)
        (.cons (.flat (pconst_string s)) (.cons (.flat rfl) (.cons (.flat (pconst_int n)) .nil))) (fun r hr => by cases hr)).2
    · have hc : (Value.slice a0 len cap) = .slice (some a) len' cap' := by simpa [Value.cells] using hcs
      cases hc
      simp only [if_true] at hz
      obtain ⟨hsp, c, el, fr, hblk⟩ := has_cells (by
        have := hval 1 41 _ rfl rfl
        simp only [Value.okWide, Tryz.underlying41, Cell.okWide, Cell.ok] at this
        exact this.2.2)
      obtain ⟨ab, ao, asp⟩ := a
      simp only at hsp hblk
      subst hsp
      simp only [Prod.mk.injEq] at hx
      obtain ⟨hd1, _⟩ := hx
      have hlen : (ss.take len).length = len := by rw [List.length_take]; omega
      have hu : (((ss.take len).map nats)).length ≤ 2 ^ 20 := by
        rw [List.length_map]
        have := bulk_len (strs (H := H) (ss.take len))
        rw [hd1] at hbulk
        simp only [Rows.uptoBulkAll, Rows.uptoBulk] at hbulk
        simp only [strs, List.length_map] at this hbulk
        omega
      have hA5 := law_5 (nats s) ((ss.take len).map nats) n hu hb
      rw [List.map_map] at hA5
      have hll : len = ((ss.take len).map (PV.str ∘ nats)).length := by rw [List.length_map, hlen]
      have harg : ArgR vE [{ b := ab, d := ao, cells := (ss.take len).map Value.string, e := 1, g := 9 }] (.lst 9 ((ss.take len).map (PV.str ∘ nats))) (.slice (some ⟨0, 0, none⟩) ((ss.take len).map (PV.str ∘ nats)).length ((ss.take len).map (PV.str ∘ nats)).length) (.slice (some ⟨ab, ao, none⟩) ((ss.take len).map (PV.str ∘ nats)).length cap) :=
        ArgR.row (i := 0) (r := { b := ab, d := ao, cells := (ss.take len).map Value.string, e := 1, g := 9 }) rfl (show vE.T 9 = some _ by rw [vE_T]; exact T9) rfl
          (readN_all _ _ (by simp)) (rds_strs _) (fun x hx => by
            obtain ⟨y, _, rfl⟩ := List.mem_map.1 hx
            rfl) (by rw [← hll]; exact hl)
      rw [← hll] at harg
      refine (calls_plain vESound vEOkP rfl hA5 (.cons (.flat (pconst_string s)) (.cons harg (.cons (.flat (pconst_int n)) .nil))) (w := W) ?_).2
      intro r hr
      simp only [List.mem_singleton] at hr
      subst hr
      refine ⟨?_, ?_, ?_, c, el, fr, hblk, ?_⟩
      · exact (Array.getElem?_eq_some_iff.1 hblk).1
      · intro v hv
        obtain ⟨y, _, rfl⟩ := List.mem_map.1 hv
        rfl
      · intro v hv
        obtain ⟨y, _, rfl⟩ := List.mem_map.1 hv
        rfl
      · intro j v hj
        simp only [List.getElem?_map, Option.map_eq_some_iff] at hj
        obtain ⟨y, hy, rfl⟩ := hj
        rw [List.getElem?_take] at hy
        split at hy
        · have hjs := (List.getElem?_eq_some_iff.1 hy).1
          have := hcell j hjs
          rw [List.getD, hy, cell_at hblk] at this
          exact this
        · cases hy
  refine key.mono fun e W' ⟨he, hg⟩ => ?_
  subst he
  exact ⟨_, rfl, post_of_below (pv := []) hW' (fun _ _ _ => (trodAll_cons_mk (shut_bool Tryz.underlying4 _) trodAll_mk0))
    (fun sp hsp => trodAll_mk3 (Go.ChangeMaps.shut_string Tryz.underlying9 hs) (Go.WideElems.Trod_stays laidOut (by kernel_rfl) (of_decide_eq_true (by kernel_rfl)) h1k (fun x hx => hg.same (hlt x hx)) (fun x hx => hsp x (by simpa using hx))) (shut_int Tryz.underlying3 w2)) (fun _ _ => rfl) (by simp)
    hg (ok_one (by kernel_rfl) rfl (okWide_bool_mk Tryz.underlying4 _))⟩
end Go.Proofs.YtabcdhcpilpojaaGreatDoor.substFresh
end
