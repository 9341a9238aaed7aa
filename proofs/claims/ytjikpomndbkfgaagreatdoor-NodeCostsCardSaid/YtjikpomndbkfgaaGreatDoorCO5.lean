/- NodeCosts: for every input that the statement's row lets in the law answers true and its argument reads as before; conditions: none beyond the row's own (part 5; joined, pruned and shortened by a program of the prover's own: names of two letters stand for longer ones.) -/
import Derived.Test.YtjikpomndbkfgaaGreatDoorCO4
set_option linter.all false
set_option linter.unusedVariables false
set_option linter.unusedSimpArgs false
set_option linter.unusedSectionVars false
namespace Go.Proofs.YtjikpomndbkfgaaGreatDoor
open Go Go.Sx Go.Nd
set_option maxRecDepth 10000
section
variable {w0 : World} {L F : Res} {ba bl : Nat}
theorem part_rng {k : Int × Int} (h : qw k) : 1 ≤ k.1 ∧ k.1 ≤ 5 ∧ 0 ≤ k.2 ∧ (k.1 = 1 → k.2 < 1064) ∧ (k.1 = 5 → k.2 < 32) ∧ (1 < k.1 → k.1 < 5 → k.2 = 0) := by
  rcases h with ⟨h, h1, h2⟩ | rfl | rfl | rfl | ⟨h, h1, h2⟩
  · omega
  · decide
  · decide
  · decide
  · omega
theorem xR (W : RS) : (zl W).length ≤ 1100 := by
  have h1 := xF W 1064 (by omega)
  have h2 := W9 W 32 (by omega)
  have h3 : (sgP W).length ≤ 1 := by unfold sgP; split <;> simp
  have h4 : (dbP W).length ≤ 1 := by unfold dbP; split <;> simp
  have h5 : (YS W).length ≤ 1 := by unfold YS; split <;> simp
  unfold zl; simp only [List.length_append]; omega
def xP (W : RS) (k : Int × Int) (a : Int) : Prop := a ≠ 0 ∧ qn W k = a ∧ k ∉ zl W
instance (W : RS) (k : Int × Int) (a : Int) : Decidable (xP W k a) := by unfold xP; infer_instance
theorem rlive_ok (W : RS) (v : List Value) (C : qV) (hw : RefC ba bl W v C) (k : Int × Int) (hk : qw k) (a : Int) :
    FnT Tryz.prog w0 33 #[.agg v.toArray, .agg (WC W.num W.ver k).toArray, .int .i64 a] (C :: F) (fun v L' => v = .bool (decide (xP W k a)) ∧ L' = C :: F) := by
  obtain ⟨pg, cg, Cg, hv, hs, hC⟩ := hw.at
  have hvlen := hw.len
  have hkr := part_rng hk
  obtain ⟨l, hl⟩ : ∃ l, zl W = l := ⟨_, rfl⟩
  have hll : l.length ≤ 1100 := hl ▸ xR W
  unfold WC
  refine qi (E0 := [(0, _), (1, _), (2, _)]) (N := 98) Tryz.func33 rfl rfl rfl rfl ?_
  refine qO <| qG (wq rfl) ?_
  rintro t3 _ ⟨b3, rfl, rfl⟩
  refine qG (wq rfl) ?_
  rintro t4 _ ⟨b4, rfl, rfl⟩
  refine qE rfl <| qF <| qN <| qO <| qA rfl <| q9 (wn rfl rfl) <| qA rfl <| qY (s := 12) rfl (fun hg1_2 => ?_) (fun hg1_2 => ?_)
  ·
   refine qL rfl rfl rfl <| qL rfl rfl rfl <| qL rfl rfl rfl <| qL rfl rfl rfl <| qL rfl rfl rfl <| q9 (qq rfl rfl) <| qA rfl <| qL rfl rfl rfl <| qL rfl rfl rfl <| qL rfl rfl rfl <| qL rfl rfl rfl <| qL rfl rfl rfl <| q9 (qq rfl rfl) <| qA rfl <| qL rfl rfl rfl <| qL rfl rfl rfl <| qL rfl rfl rfl <| q9 (qq rfl rfl) <| qA rfl <| qL rfl rfl rfl <| qL rfl rfl rfl <| qL rfl rfl rfl <| q9 (qq rfl rfl) <| qA rfl <| qL rfl rfl rfl <| qL rfl rfl rfl <| qL rfl rfl rfl <| q9 (qq rfl rfl) <| qF <| zM rfl <| qO <| qE rfl <| qF <| qy <| qv <| wC (C :: F) (.inl rfl) rfl (qu rfl) ?_
   exact ⟨congrArg Value.bool (decide_eq_false (fun h : xP W k a => h.1 hg1_2)).symm, rfl⟩
  ·
   refine qD rfl rfl (qB rfl) <| qD rfl rfl (qI rfl rfl) <| qD rfl rfl (qB rfl) <| qD rfl rfl (qI rfl (show wY v 0 = some (.int .u32 W.num) by rw [hv]; rfl)) <| qD rfl rfl (zE rfl rfl) <| q9 (qU rfl rfl) <| qA rfl <| qY (s := 19) rfl (fun hg1_9 => ?_) (fun hg1_9 => ?_)
   · exact absurd rfl hg1_9
   ·
    refine qD rfl rfl (qB rfl) <| qD rfl rfl (qI rfl rfl) <| qD rfl rfl (qB rfl) <| qD rfl rfl (qI rfl (show wY v 1 = some (.int .u32 W.ver) by rw [hv]; rfl)) <| qD rfl rfl (zE rfl rfl) <| q9 (qU rfl rfl) <| qA rfl <| qY (s := 26) rfl (fun hg1_16 => ?_) (fun hg1_16 => ?_)
    · exact absurd rfl hg1_16
    ·
     refine qD rfl rfl (qB rfl) <| qD rfl rfl (qI rfl rfl) <| qD rfl rfl (wJ rfl rfl) <| q9 (qU rfl rfl) <| qA rfl <| qY (s := 31) rfl (fun hg1_21 => ?_) (fun hg1_21 => ?_)
     · (exfalso; omega)
     ·
      refine qD rfl rfl (qB rfl) <| qD rfl rfl (qI rfl rfl) <| qD rfl rfl (y8 rfl rfl) <| q9 (qU rfl rfl) <| qA rfl <| qY (s := 36) rfl (fun hg1_26 => ?_) (fun hg1_26 => ?_)
      · (exfalso; omega)
      ·
       refine qD rfl rfl (qB rfl) <| qD rfl rfl (qI rfl rfl) <| qD rfl rfl (wJ rfl rfl) <| q9 (qU rfl rfl) <| qF <| qM rfl (fun hc1 => ?_) (fun hc1 => ?_)
       · (exfalso; omega)
       ·
        refine qZ <| qJ <| zY (Γ := {pΓ : (Nat) // (fun (z : Nat) => a ≠ 0) pΓ}) (fun g => (fun (z : Nat) => [(2, .int .i64 a), (3, .pointer (some ⟨b3, 0, none⟩)), (4, .pointer (some ⟨b4, 0, none⟩))]) g.1) (fun g => (fun (z : Nat) => [(b3, .cells v.toArray 41 (0, 0))] :: [(b4, .cells [.int .i64 k.1, .int .u32 W.num, .int .u32 W.ver, .int .i64 k.2].toArray 80 (0, 0))] :: C :: F) g.1) ?_ ?_
        ·
         refine qO <| q9 (qB rfl) <| q9 (qI rfl rfl) <| q9 (wn rfl rfl) <| qA rfl <| qY (s := 44) rfl (fun hg3_3 => ?_) (fun hg3_3 => ?_)
         ·
          refine qD rfl rfl (qB rfl) <| qD rfl rfl (qI rfl rfl) <| qD rfl rfl (kr rfl rfl) <| q9 (qq rfl rfl) <| qA rfl <| qY (s := 49) rfl (fun hg3_8 => ?_) (fun hg3_8 => ?_)
          · (exfalso; omega)
          ·
           refine qD rfl rfl (qB rfl) <| qD rfl rfl (qI rfl rfl) <| qD rfl rfl (wn rfl rfl) <| qD rfl rfl (qP rfl) <| qY (s := 53) rfl (fun hg3_12 => ?_) (fun hg3_12 => ?_)
           ·
            refine qD rfl rfl (qB rfl) <| qD rfl rfl (qI rfl rfl) <| qD rfl rfl (kr rfl rfl) <| qD rfl rfl (qq rfl rfl) <| q9 (qU rfl rfl) <| qA rfl <| qY (s := 59) rfl (fun hg3_18 => ?_) (fun hg3_18 => ?_)
            · (exfalso; omega)
            ·
             refine qD rfl rfl (qB rfl) <| qD rfl rfl (qI rfl rfl) <| qD rfl rfl (y8 rfl rfl) <| qD rfl rfl (qP rfl) <| qY (s := 63) rfl (fun hg3_22 => ?_) (fun hg3_22 => ?_)
             ·
              refine qD rfl rfl (qB rfl) <| qD rfl rfl (qI rfl rfl) <| qD rfl rfl (wJ rfl rfl) <| qD rfl rfl (qq rfl rfl) <| qD rfl rfl (qP rfl) <| qY (s := 68) rfl (fun hg3_27 => ?_) (fun hg3_27 => ?_)
              ·
               refine qD rfl rfl (qB rfl) <| qD rfl rfl (qI rfl rfl) <| qD rfl rfl (zE rfl rfl) <| qD rfl rfl (qq rfl rfl) <| q9 (qU rfl rfl) <| qF <| qM rfl (fun hc3 => ?_) (fun hc3 => ?_)
               · (exfalso; omega)
               ·
                refine qZ <| qW ⟨0, ?_⟩ ?_
                · (try dsimp only); assumption
                · (try dsimp only); exact qX _
              ·
               refine qL rfl rfl rfl <| qL rfl rfl rfl <| qL rfl rfl rfl <| qD rfl rfl (qU rfl rfl) <| q9 (qU rfl rfl) <| qF <| wV rfl <| qZ <| qW ⟨0, ?_⟩ ?_
               · (try dsimp only); assumption
               · (try dsimp only); exact qX _
             ·
              refine qL rfl rfl rfl <| qL rfl rfl rfl <| qL rfl rfl rfl <| qD rfl rfl (qU rfl rfl) <| qD rfl rfl (qP rfl) <| qL rfl rfl rfl <| qL rfl rfl rfl <| qL rfl rfl rfl <| qD rfl rfl (qU rfl rfl) <| q9 (qU rfl rfl) <| qF <| wV rfl <| qZ <| qW ⟨0, ?_⟩ ?_
              · (try dsimp only); assumption
              · (try dsimp only); exact qX _
           ·
            refine qL rfl rfl rfl <| qL rfl rfl rfl <| qL rfl rfl rfl <| qD rfl rfl (qU rfl rfl) <| q9 (qU rfl rfl) <| qA rfl <| qD rfl rfl (qB rfl) <| qD rfl rfl (qI rfl rfl) <| qD rfl rfl (y8 rfl rfl) <| qD rfl rfl (qP rfl) <| qY (s := 63) rfl (fun hg3_22 => ?_) (fun hg3_22 => ?_)
            ·
             refine qD rfl rfl (qB rfl) <| qD rfl rfl (qI rfl rfl) <| qD rfl rfl (wJ rfl rfl) <| qD rfl rfl (qq rfl rfl) <| qD rfl rfl (qP rfl) <| qY (s := 68) rfl (fun hg3_27 => ?_) (fun hg3_27 => ?_)
             ·
              refine qD rfl rfl (qB rfl) <| qD rfl rfl (qI rfl rfl) <| qD rfl rfl (zE rfl rfl) <| qD rfl rfl (qq rfl rfl) <| q9 (qU rfl rfl) <| qF <| qM rfl (fun hc3 => ?_) (fun hc3 => ?_)
              · (exfalso; omega)
              ·
               refine qZ <| qW ⟨0, ?_⟩ ?_
               · (try dsimp only); assumption
               · (try dsimp only); exact qX _
             ·
              refine qL rfl rfl rfl <| qL rfl rfl rfl <| qL rfl rfl rfl <| qD rfl rfl (qU rfl rfl) <| q9 (qU rfl rfl) <| qF <| wV rfl <| qZ <| qW ⟨0, ?_⟩ ?_
              · (try dsimp only); assumption
              · (try dsimp only); exact qX _
            ·
             refine qL rfl rfl rfl <| qL rfl rfl rfl <| qL rfl rfl rfl <| qD rfl rfl (qU rfl rfl) <| qD rfl rfl (qP rfl) <| qL rfl rfl rfl <| qL rfl rfl rfl <| qL rfl rfl rfl <| qD rfl rfl (qU rfl rfl) <| q9 (qU rfl rfl) <| qF <| wV rfl <| qZ <| qW ⟨0, ?_⟩ ?_
             · (try dsimp only); assumption
             · (try dsimp only); exact qX _
         ·
          refine qL rfl rfl rfl <| qL rfl rfl rfl <| qL rfl rfl rfl <| q9 (qU rfl rfl) <| qA rfl <| qD rfl rfl (qB rfl) <| qD rfl rfl (qI rfl rfl) <| qD rfl rfl (wn rfl rfl) <| qD rfl rfl (qP rfl) <| qY (s := 53) rfl (fun hg3_12 => ?_) (fun hg3_12 => ?_)
          ·
           refine qD rfl rfl (qB rfl) <| qD rfl rfl (qI rfl rfl) <| qD rfl rfl (kr rfl rfl) <| qD rfl rfl (qq rfl rfl) <| q9 (qU rfl rfl) <| qA rfl <| qY (s := 59) rfl (fun hg3_18 => ?_) (fun hg3_18 => ?_)
           · (exfalso; omega)
           ·
            refine qD rfl rfl (qB rfl) <| qD rfl rfl (qI rfl rfl) <| qD rfl rfl (y8 rfl rfl) <| qD rfl rfl (qP rfl) <| qY (s := 63) rfl (fun hg3_22 => ?_) (fun hg3_22 => ?_)
            ·
             refine qD rfl rfl (qB rfl) <| qD rfl rfl (qI rfl rfl) <| qD rfl rfl (wJ rfl rfl) <| qD rfl rfl (qq rfl rfl) <| qD rfl rfl (qP rfl) <| qY (s := 68) rfl (fun hg3_27 => ?_) (fun hg3_27 => ?_)
             ·
              refine qD rfl rfl (qB rfl) <| qD rfl rfl (qI rfl rfl) <| qD rfl rfl (zE rfl rfl) <| qD rfl rfl (qq rfl rfl) <| q9 (qU rfl rfl) <| qF <| qM rfl (fun hc3 => ?_) (fun hc3 => ?_)
              · (exfalso; omega)
              ·
               refine qZ <| qW ⟨0, ?_⟩ ?_
               · (try dsimp only); assumption
               · (try dsimp only); exact qX _
             ·
              refine qL rfl rfl rfl <| qL rfl rfl rfl <| qL rfl rfl rfl <| qD rfl rfl (qU rfl rfl) <| q9 (qU rfl rfl) <| qF <| wV rfl <| qZ <| qW ⟨0, ?_⟩ ?_
              · (try dsimp only); assumption
              · (try dsimp only); exact qX _
            ·
             refine qL rfl rfl rfl <| qL rfl rfl rfl <| qL rfl rfl rfl <| qD rfl rfl (qU rfl rfl) <| qD rfl rfl (qP rfl) <| qL rfl rfl rfl <| qL rfl rfl rfl <| qL rfl rfl rfl <| qD rfl rfl (qU rfl rfl) <| q9 (qU rfl rfl) <| qF <| wV rfl <| qZ <| qW ⟨0, ?_⟩ ?_
             · (try dsimp only); assumption
             · (try dsimp only); exact qX _
          ·
           refine qL rfl rfl rfl <| qL rfl rfl rfl <| qL rfl rfl rfl <| qD rfl rfl (qU rfl rfl) <| q9 (qU rfl rfl) <| qA rfl <| qD rfl rfl (qB rfl) <| qD rfl rfl (qI rfl rfl) <| qD rfl rfl (y8 rfl rfl) <| qD rfl rfl (qP rfl) <| qY (s := 63) rfl (fun hg3_22 => ?_) (fun hg3_22 => ?_)
           ·
            refine qD rfl rfl (qB rfl) <| qD rfl rfl (qI rfl rfl) <| qD rfl rfl (wJ rfl rfl) <| qD rfl rfl (qq rfl rfl) <| qD rfl rfl (qP rfl) <| qY (s := 68) rfl (fun hg3_27 => ?_) (fun hg3_27 => ?_)
            ·
             refine qD rfl rfl (qB rfl) <| qD rfl rfl (qI rfl rfl) <| qD rfl rfl (zE rfl rfl) <| qD rfl rfl (qq rfl rfl) <| q9 (qU rfl rfl) <| qF <| qM rfl (fun hc3 => ?_) (fun hc3 => ?_)
             · (exfalso; omega)
             ·
              refine qZ <| qW ⟨0, ?_⟩ ?_
              · (try dsimp only); assumption
              · (try dsimp only); exact qX _
            ·
             refine qL rfl rfl rfl <| qL rfl rfl rfl <| qL rfl rfl rfl <| qD rfl rfl (qU rfl rfl) <| q9 (qU rfl rfl) <| qF <| wV rfl <| qZ <| qW ⟨0, ?_⟩ ?_
             · (try dsimp only); assumption
             · (try dsimp only); exact qX _
           ·
            refine qL rfl rfl rfl <| qL rfl rfl rfl <| qL rfl rfl rfl <| qD rfl rfl (qU rfl rfl) <| qD rfl rfl (qP rfl) <| qL rfl rfl rfl <| qL rfl rfl rfl <| qL rfl rfl rfl <| qD rfl rfl (qU rfl rfl) <| q9 (qU rfl rfl) <| qF <| wV rfl <| qZ <| qW ⟨0, ?_⟩ ?_
            · (try dsimp only); assumption
            · (try dsimp only); exact qX _
        rintro ⟨z, hcut⟩
        replace hcut : a ≠ 0 := hcut
        have ha := hcut
        show Tr _ _ _ ([(2, .int .i64 a), (3, .pointer (some ⟨b3, 0, none⟩)), (4, .pointer (some ⟨b4, 0, none⟩))]) ([(b3, .cells v.toArray 41 (0, 0))] :: [(b4, .cells [.int .i64 k.1, .int .u32 W.num, .int .u32 W.ver, .int .i64 k.2].toArray 80 (0, 0))] :: C :: F) _ _
        refine qO <| q9 (qB rfl) <| q9 (qI rfl rfl) <| q9 (qB rfl) <| q9 (qI rfl rfl) <| q9 (wX rfl) <| qG (qj) ?_
        rintro t7 _ ⟨b7, rfl, rfl⟩
        refine qR (wc rfl rfl rfl rfl) <| qm <| q9 (wQ rfl hvlen) <| qG (w5 rfl (we (C) (QF W v C hw))) ?_
        rintro t80 _ ⟨Cp, hsp, rfl⟩
        refine qE rfl <| qT ?_
        rw [hl] at hsp
        obtain ⟨pp, cp, hvp⟩ := hsp.slice
        refine qJ <| qN <| qO <| qE rfl <| qF <| qg <| wS (Γ := {pΓ : (Nat) // (fun (i : Nat) => i ≤ l.length ∧ k ∉ l.take i) pΓ}) (fun g => (fun (i : Nat) => [(2, .int .i64 a), (3, .pointer (some ⟨b3, 0, none⟩)), (7, .pointer (some ⟨b7, 0, none⟩)), (8, t80), (9, .int .i64 i)]) g.1) (fun g => (fun (i : Nat) => Cp :: [(b7, .cells [.int .i64 k.1, .int .i64 k.2].toArray 65 (0, 0))] :: [(b3, .cells v.toArray 41 (0, 0))] :: C :: F) g.1) (fun g => (fun (i : Nat) => l.length - i) g.1) ⟨0, by dsimp only; exact ⟨by omega, by simp⟩⟩ (qX _) ?_
        rintro ⟨i, hloop⟩
        replace hloop : i ≤ l.length ∧ k ∉ l.take i := hloop
        obtain ⟨hi, hn⟩ := hloop
        show Tr _ _ _ ([(2, .int .i64 a), (3, .pointer (some ⟨b3, 0, none⟩)), (7, .pointer (some ⟨b7, 0, none⟩)), (8, t80), (9, .int .i64 i)]) (Cp :: [(b7, .cells [.int .i64 k.1, .int .i64 k.2].toArray 65 (0, 0))] :: [(b3, .cells v.toArray 41 (0, 0))] :: C :: F) _ _
        refine qN <| qO <| qA rfl <| qA rfl <| q9 (w8 (by rw [hvp]; rfl)) ?_
        refine q9 (wJ rfl rfl) <| qF <| qM rfl (fun hc8 => ?_) (fun hc8 => ?_)
        ·
         refine qZ <| qJ <| qN <| qg <| qN ?_
         obtain ⟨q, hq⟩ : ∃ q, l[i]? = some q := ⟨_, List.getElem?_eq_getElem (by omega)⟩
         rcases hsp with ⟨-, h0, -⟩ | ⟨bp, cap, spare, rfl, hcs, rfl, hcap, hnc⟩
         · omega
         refine wT wB <| wD [(87, .pure _), (88, .pure _), (89, .pure _), (90, .pure _), (91, .pure _)] (by kernel_rfl) rfl rfl rfl wm (qC rfl (fun X => qP rfl) <| qC rfl (fun X => qP rfl) <| qC rfl (fun X => qx (j := i) (off := i * 2) rfl rfl rfl (by omega) (by simp)) <| qC rfl (fun X => zC (j := i) y9 rfl hq rfl) <| qC rfl (fun X => wW rfl) <| ParH.nil rfl) ?_
         dsimp only [ze, List.drop, List.length]
         refine wE (by kernel_rfl) (Wt rfl rfl) ?_
         refine wI <| qJ <| qM rfl (fun hc10 => ?_) (fun hc10 => ?_)
         ·
          refine qO <| qE rfl <| qF <| qy <| wH <| qv <| k5 <| wH <| qv <| wC (C :: F) (.inl rfl) rfl (qu rfl) ?_
          exact ⟨congrArg Value.bool (decide_eq_false (fun h : xP W k a => h.2.2 (by rw [hl, ← Js.1 hc10]; exact List.mem_of_getElem? hq))).symm, rfl⟩
         ·
          refine qZ <| qe <| qJ <| qK <| qA rfl <| q9 (w9 rfl rfl (by omega)) <| qE rfl <| qT <| w6 ⟨i + 1, ?_⟩ ?_ ?_
          ·
           try dsimp only
           refine ⟨by omega, ?_⟩
           rw [List.take_add_one, hq, List.mem_append]
           rintro (h | h)
           · exact hn h
           · have e : k = q := by simpa using h
             exact hc10 (by rw [e])
          · (try dsimp only); omega
          · (try dsimp only); exact qX _
        ·
         refine wa <| qr <| qt <| qh <| qJ <| qN ?_
         rw [List.take_of_length_le (by omega)] at hn
         refine qK <| q9 (wQ rfl hvlen) <| q9 (wW rfl) <| q9 (wM rfl (zk (C) (J2 W v C hw k hk))) <| qA rfl <| q9 (wn rfl rfl) <| qE rfl <| qF <| qy <| wC (C :: F) (.inl rfl) rfl (qu rfl) ?_
         exact ⟨congrArg Value.bool (decide_eq_decide.2 ⟨fun h => ⟨ha, h, by rw [hl]; exact hn⟩, fun h => h.2.1⟩), rfl⟩
def zI : List (Int × Int) → List Int → RS × List Int → RS × List Int
  | k :: l, a :: bs, s => zI l bs (kO s.1 k a, if qn s.1 k ≠ 0 then s.2 ++ [qn s.1 k] else s.2)
  | _, _, s => s
theorem jT (bs : List Int) (s : RS × List Int) : zI [] bs s = s := by cases bs <;> rfl
theorem commitFR_step {l : List (Int × Int)} {bs : List Int} {i : Nat} {k : Int × Int} {a : Int} (hk : l[i]? = some k) (ha : bs[i]? = some a) (s : RS × List Int) :
    zI (l.drop i) (bs.drop i) s = zI (l.drop (i + 1)) (bs.drop (i + 1)) (kO s.1 k a, if qn s.1 k ≠ 0 then s.2 ++ [qn s.1 k] else s.2) := by
  rw [kJ hk, kJ ha, zI]
def yo (W : RS) (bs : List Int) : RS := (zI (zl W) bs (W, W.gone)).1
def xS (W : RS) (bs : List Int) : List Int := (zI (zl W) bs (W, W.gone)).2
def lvT (W : RS) (k : Nat) : Int → yF := fun j => if 0 ≤ j ∧ j < k then ⟨(W.leaves j).at_, false⟩ else W.leaves j
theorem lvT_step (W : RS) (k : Nat) : upd (lvT W k) (k : Int) ⟨(W.leaves k).at_, false⟩ = lvT W (k + 1) := by
  funext j; unfold upd lvT
  by_cases e : j = k
  · subst e; rw [if_pos rfl, if_pos (by omega)]
  · rw [if_neg e]
    by_cases h : 0 ≤ j ∧ j < k
    · rw [if_pos h, if_pos (by omega)]
    · rw [if_neg h, if_neg (by omega)]
theorem lvT_at (W : RS) (k : Nat) : lvT W k k = W.leaves k := by unfold lvT; rw [if_neg (by omega)]
def ZO (W : RS) : RS := { W with gone := [], sg := ⟨W.sg.at_, false⟩, db := ⟨W.db.at_, false⟩, self := ⟨W.self.at_, false⟩, leaves := lvT W 32 }
def zA (W : RS) (bs : List Int) : RS := ZO (yo W bs)
theorem ZI {W : RS} {k : Int × Int} (h : k ∈ zl W) : qw k := by
  unfold zl at h
  simp only [List.mem_append] at h
  have hn : ∀ (n i : Nat) (j : Int), j ∈ (zu n).take i → 0 ≤ j ∧ j < n := fun n i j hj => by
    have := List.mem_of_mem_take hj
    unfold zu at this
    obtain ⟨a, ha, rfl⟩ := List.mem_map.1 this
    have := List.mem_range.1 ha
    omega
  rcases h with (((h | h) | h) | h) | h
  · unfold yQ at h
    obtain ⟨j, hj, rfl⟩ := List.mem_map.1 h
    have := hn _ _ _ (List.mem_filter.1 hj).1
    exact .inl ⟨rfl, this.1, this.2⟩
  · unfold kg at h
    obtain ⟨j, hj, rfl⟩ := List.mem_map.1 h
    have := hn _ _ _ (List.mem_filter.1 hj).1
    exact .inr (.inr (.inr (.inr ⟨rfl, this.1, this.2⟩)))
  · unfold sgP at h; split at h
    · obtain rfl : k = (3, 0) := by simpa using h
      exact .inr (.inr (.inl rfl))
    · cases h
  · unfold dbP at h; split at h
    · obtain rfl : k = (4, 0) := by simpa using h
      exact .inr (.inr (.inr (.inl rfl)))
    · cases h
  · unfold YS at h; split at h
    · obtain rfl : k = (2, 0) := by simpa using h
      exact .inr (.inl rfl)
    · cases h
theorem rcommit_ok (W : RS) (v : List Value) (C Cb : qV) (hw : RefC ba bl W v C) (ua : Value) (bs : List Int) (hat : SlC 3 1 ua bs.length (iV bs) Cb) (hlen : (zl W).length = bs.length)
    (hr : ∀ a ∈ bs, 1 ≤ a ∧ a ≤ 65535) (hok : ROk (yo W bs)) (hgl : W.gone.length ≤ 800000) :
    FnT Tryz.prog w0 45 #[.agg v.toArray, ua] (C :: Cb :: F) (fun v L' => ∃ l up us ud C' Cp Cs Cd, v = .tuple #[.agg l.toArray, up, us, ud, .int .i64 0] ∧ RefC ba bl (zA W bs) l C' ∧
      SlC 65 2 up (zl W).length ((zl W).flatMap zK) Cp ∧ SlC 54 128 us (zl W).length ((zl W).flatMap (fun k => wt (wx (yo W bs) k))) Cs ∧
      SlC 3 1 ud (srt (xS W bs)).length (iV (srt (xS W bs))) Cd ∧ L' = C' :: Cp :: Cs :: Cd :: Cb :: F) := by
  have hvlen := hw.len
  obtain ⟨pu, cu, hu⟩ := hat.slice
  obtain ⟨l, hl⟩ : ∃ l, zl W = l := ⟨_, rfl⟩
  have hlp : ∀ k ∈ l, qw k := fun k hk => ZI (hl ▸ hk)
  have hll : l.length ≤ 1100 := hl ▸ xR W
  obtain ⟨m, hm⟩ : ∃ m, yo W bs = m := ⟨_, rfl⟩
  obtain ⟨C0, Cg, pg, cg, h0, rfl, hv, hs⟩ := hw.split
  rw [hl] at hlen
  simp only [hl, hm]
  rw [hm] at hok
  refine qi (E0 := [(0, _), (1, _)]) (N := 114) Tryz.func45 rfl rfl rfl rfl ?_
  refine qO <| qG (wq rfl) ?_
  rintro t2 _ ⟨b2, rfl, rfl⟩
  refine qG (qj) ?_
  rintro t4 _ ⟨b4, rfl, rfl⟩
  refine qE rfl <| qE rfl <| qE rfl <| qE rfl <| qm <| q9 (wQ rfl hvlen) <| qG (w5 rfl (we (C0 ++ Cg) (QF W v _ hw))) ?_
  rintro t19 _ ⟨Cp, hsp, rfl⟩
  refine qE rfl <| qT ?_
  rw [hl] at hsp
  obtain ⟨pp, cp, hvp⟩ := hsp.slice
  refine qJ <| qO <| qA rfl <| q9 (w8 (by rw [hvp]; rfl)) ?_
  refine qA rfl <| q9 (w8 (by rw [hu]; rfl)) ?_
  refine q9 (zE rfl rfl) <| qE rfl <| qT ?_
  rw [decide_eq_false (show ¬ ((l.length : Int) ≠ bs.length) by omega)]
  refine qJ <| qN <| qO <| qE rfl <| qF <| qg <| wS (Γ := {pΓ : (Nat) × (Bool) // (fun (i : Nat) (bd : Bool) => i ≤ bs.length ∧ bd = false) pΓ.1 pΓ.2}) (fun g => (fun (i : Nat) (bd : Bool) => [(1, ua), (2, .pointer (some ⟨b2, 0, none⟩)), (4, .pointer (some ⟨b4, 0, none⟩)), (9, t19), (10, .bool bd), (11, .int .i64 i)]) g.1.1 g.1.2) (fun g => (fun (i : Nat) (bd : Bool) => Cp :: [(b2, .cells v.toArray 41 (0, 0))] :: [(b4, .cells node0V.toArray 41 (0, 0))] :: (C0 ++ Cg) :: Cb :: F) g.1.1 g.1.2) (fun g => (fun (i : Nat) (bd : Bool) => bs.length - i) g.1.1 g.1.2) ⟨(0, false), by dsimp only; exact ⟨by omega, rfl⟩⟩ (qX _) ?_
  rintro ⟨⟨i, bd⟩, hloop⟩
  replace hloop : i ≤ bs.length ∧ bd = false := hloop
  obtain ⟨hi, hbd⟩ := hloop
  show Tr _ _ _ ([(1, ua), (2, .pointer (some ⟨b2, 0, none⟩)), (4, .pointer (some ⟨b4, 0, none⟩)), (9, t19), (10, .bool bd), (11, .int .i64 i)]) (Cp :: [(b2, .cells v.toArray 41 (0, 0))] :: [(b4, .cells node0V.toArray 41 (0, 0))] :: (C0 ++ Cg) :: Cb :: F) _ _
  refine qN <| qO <| qA rfl <| qA rfl <| q9 (w8 (by rw [hu]; rfl)) ?_
  refine q9 (wJ rfl rfl) <| qF <| qM rfl (fun hc4 => ?_) (fun hc4 => ?_)
  ·
   refine qZ <| qJ <| qN <| qg ?_
   obtain ⟨a, ha⟩ : ∃ a, bs[i]? = some a := ⟨_, List.getElem?_eq_getElem (by omega)⟩
   have har := hr a (List.mem_of_getElem? ha)
   rcases hat with ⟨-, h0, -⟩ | ⟨bA, capA, spA, rfl, hcsA, rfl, hcapA, hncA⟩
   · omega
   refine qK <| qA rfl <| qA rfl <| zy (s := 32) rfl (fun hg6_1 => ?_) (fun hg6_1 => ?_)
   · (rw [hbd] at hg6_1; cases hg6_1)
   ·
    refine qD rfl rfl (qP rfl) <| qD rfl rfl (qP rfl) <| qD rfl rfl (qx (j := i) (off := i * 1) rfl rfl rfl (by omega) (by simp)) ?_
    refine qD rfl rfl (qI rfl (jl ha)) <| qD rfl rfl (wJ rfl rfl) <| q9 (qU rfl rfl) <| qA rfl <| qY (s := 39) rfl (fun hg6_8 => ?_) (fun hg6_8 => ?_)
    · (exfalso; omega)
    ·
     refine qD rfl rfl (qP rfl) <| qD rfl rfl (qP rfl) <| qD rfl rfl (qx (j := i) (off := i * 1) rfl rfl rfl (by omega) (by simp)) ?_
     refine qD rfl rfl (qI rfl (jl ha)) <| qD rfl rfl (y8 rfl rfl) <| q9 (qU rfl rfl) <| qE rfl <| qT <| qe <| qJ <| qK <| qA rfl <| q9 (w9 rfl rfl (by omega)) <| qE rfl <| qT <| w6 ⟨(i + 1, _), ?_⟩ ?_ ?_
     · (try dsimp only); exact ⟨by omega, decide_eq_false (by omega)⟩
     · (try dsimp only); omega
     · (try dsimp only); exact qX _
  ·
   refine wa <| qr <| qt <| qh <| qJ <| qN <| qO <| qA rfl <| qF <| yB rfl (fun hc7 => ?_) (fun hc7 => ?_)
   · (rw [hbd] at hc7; cases hc7)
   ·
    refine qZ <| qJ <| qN <| yy (L' := Cg :: [(b2, .cells v.toArray 41 (0, 0))] :: [(b4, .cells node0V.toArray 41 (0, 0))] :: C0 :: Cp :: Cb :: F) (yj (by intro f; simp only [List.flatten_cons, List.flatten_nil, List.append_nil, List.countP_append, List.countP_cons, List.countP_nil]; omega)) ?_
    refine qK <| q9 (qB rfl) <| q9 (qI rfl (show wY v 13 = some (.slice pg W.gone.length cg) by rw [hv]; rfl)) <| qE rfl <| qF <| qN <| qO <| qE rfl <| qF <| qg <| wS (Γ := {pΓ : (Nat) × (RS) × (List Value) × (qV) × (List Int) × (Value) × (qV) // (fun (i : Nat) (X : RS) (vX : List Value) (CX : qV) (ds : List Int) (ud : Value) (Cd : qV) => i ≤ l.length ∧ RefC0 ba bl X vX CX ∧ SlC 3 1 ud ds.length (iV ds) Cd ∧ ds.length ≤ 800000 + i ∧ zI (l.drop i) (bs.drop i) (X, ds) = zI l bs (W, W.gone)) pΓ.1 pΓ.2.1 pΓ.2.2.1 pΓ.2.2.2.1 pΓ.2.2.2.2.1 pΓ.2.2.2.2.2.1 pΓ.2.2.2.2.2.2}) (fun g => (fun (i : Nat) (X : RS) (vX : List Value) (CX : qV) (ds : List Int) (ud : Value) (Cd : qV) => [(1, ua), (2, .pointer (some ⟨b2, 0, none⟩)), (4, .pointer (some ⟨b4, 0, none⟩)), (9, t19), (12, ud), (13, .int .i64 i)]) g.1.1 g.1.2.1 g.1.2.2.1 g.1.2.2.2.1 g.1.2.2.2.2.1 g.1.2.2.2.2.2.1 g.1.2.2.2.2.2.2) (fun g => (fun (i : Nat) (X : RS) (vX : List Value) (CX : qV) (ds : List Int) (ud : Value) (Cd : qV) => Cd :: [(b2, .cells vX.toArray 41 (0, 0))] :: [(b4, .cells node0V.toArray 41 (0, 0))] :: CX :: Cp :: Cb :: F) g.1.1 g.1.2.1 g.1.2.2.1 g.1.2.2.2.1 g.1.2.2.2.2.1 g.1.2.2.2.2.2.1 g.1.2.2.2.2.2.2) (fun g => (fun (i : Nat) (X : RS) (vX : List Value) (CX : qV) (ds : List Int) (ud : Value) (Cd : qV) => l.length - i) g.1.1 g.1.2.1 g.1.2.2.1 g.1.2.2.2.1 g.1.2.2.2.2.1 g.1.2.2.2.2.2.1 g.1.2.2.2.2.2.2) ⟨(0, W, v, C0, W.gone, _, Cg), by dsimp only; exact ⟨by omega, h0, hs, by omega, rfl⟩⟩ (qX _) ?_
    rintro ⟨⟨i, X, vX, CX, ds, ud, Cd⟩, hloop⟩
    replace hloop : i ≤ l.length ∧ RefC0 ba bl X vX CX ∧ SlC 3 1 ud ds.length (iV ds) Cd ∧ ds.length ≤ 800000 + i ∧ zI (l.drop i) (bs.drop i) (X, ds) = zI l bs (W, W.gone) := hloop
    obtain ⟨hi, hX, hsd, hdl, hcf⟩ := hloop
    show Tr _ _ _ ([(1, ua), (2, .pointer (some ⟨b2, 0, none⟩)), (4, .pointer (some ⟨b4, 0, none⟩)), (9, t19), (12, ud), (13, .int .i64 i)]) (Cd :: [(b2, .cells vX.toArray 41 (0, 0))] :: [(b4, .cells node0V.toArray 41 (0, 0))] :: CX :: Cp :: Cb :: F) _ _
    refine qN <| qO <| qA rfl <| qA rfl <| q9 (w8 (by rw [hvp]; rfl)) ?_
    refine q9 (wJ rfl rfl) <| qF <| qM rfl (fun hc11 => ?_) (fun hc11 => ?_)
    ·
     obtain ⟨k, hk⟩ : ∃ k, l[i]? = some k := ⟨_, List.getElem?_eq_getElem (by omega)⟩
     obtain ⟨a, ha⟩ : ∃ a, bs[i]? = some a := ⟨_, List.getElem?_eq_getElem (by omega)⟩
     rw [commitFR_step hk ha] at hcf
     have hkp := hlp k (List.mem_of_getElem? hk)
     rcases hsp with ⟨-, h0', -⟩ | ⟨bP, capP, spP, rfl, hcsP, rfl, hcapP, hncP⟩
     · omega
     rcases hat with ⟨-, h0', -⟩ | ⟨bA, capA, spA, rfl, hcsA, rfl, hcapA, hncA⟩
     · omega
     refine qZ <| qJ <| zY (Γ := {pΓ : (RS) × (List Value) × (qV) × (List Int) × (Value) × (qV) // (fun (X2 : RS) (vX2 : List Value) (CX2 : qV) (ds3 : List Int) (ud3 : Value) (Cd3 : qV) => RefC0 ba bl X2 vX2 CX2 ∧ SlC 3 1 ud3 ds3.length (iV ds3) Cd3 ∧ ds3.length ≤ 800001 + i ∧ zI (l.drop (i + 1)) (bs.drop (i + 1)) (X2, ds3) = zI l bs (W, W.gone)) pΓ.1 pΓ.2.1 pΓ.2.2.1 pΓ.2.2.2.1 pΓ.2.2.2.2.1 pΓ.2.2.2.2.2}) (fun g => (fun (X2 : RS) (vX2 : List Value) (CX2 : qV) (ds3 : List Int) (ud3 : Value) (Cd3 : qV) => [(1, .slice (some ⟨bA, 0, none⟩) bs.length capA), (2, .pointer (some ⟨b2, 0, none⟩)), (4, .pointer (some ⟨b4, 0, none⟩)), (9, .slice (some ⟨bP, 0, none⟩) l.length capP), (12, ud3), (13, .int .i64 i)]) g.1.1 g.1.2.1 g.1.2.2.1 g.1.2.2.2.1 g.1.2.2.2.2.1 g.1.2.2.2.2.2) (fun g => (fun (X2 : RS) (vX2 : List Value) (CX2 : qV) (ds3 : List Int) (ud3 : Value) (Cd3 : qV) => Cd3 :: [(b2, .cells vX2.toArray 41 (0, 0))] :: [(b4, .cells node0V.toArray 41 (0, 0))] :: CX2 :: [(bP, .cells (l.flatMap zK ++ spP).toArray 65 (0, 0))] :: [(bA, .cells (iV bs ++ spA).toArray 3 (0, 0))] :: F) g.1.1 g.1.2.1 g.1.2.2.1 g.1.2.2.2.1 g.1.2.2.2.2.1 g.1.2.2.2.2.2) ?_ ?_
     ·
      refine qg <| zY (Γ := {pΓ : (Nat) // (fun (z : Nat) => z = 0) pΓ}) (fun g => (fun (z : Nat) => [(1, .slice (some ⟨bA, 0, none⟩) bs.length capA), (2, .pointer (some ⟨b2, 0, none⟩)), (4, .pointer (some ⟨b4, 0, none⟩)), (9, .slice (some ⟨bP, 0, none⟩) l.length capP), (12, ud), (13, .int .i64 i), (14, .int .i64 (qn X k))]) g.1) (fun g => (fun (z : Nat) => Cd :: [(b2, .cells vX.toArray 41 (0, 0))] :: [(b4, .cells node0V.toArray 41 (0, 0))] :: CX :: [(bP, .cells (l.flatMap zK ++ spP).toArray 65 (0, 0))] :: [(bA, .cells (iV bs ++ spA).toArray 3 (0, 0))] :: F) g.1) ?_ ?_
      ·
       refine yb wB (show TrS _ _ _ _ [false, false, false, false, false, false, false] _ _ _ from ?_)
       refine qH 1 rfl rfl rfl (wO rfl) <| qH 2 rfl rfl rfl (wO rfl) <| qH 3 rfl rfl rfl (ws (j := i) (off := i * 2) rfl rfl rfl (by omega) (by simp)) ?_
       refine wv (i := 0) (j := 4) (by kernel_rfl) rfl ?_ ?_
       ·
        refine qd rfl rfl rfl (wQ rfl hX.len) <| qS 4 rfl <| qd rfl rfl rfl (zC (j := i) y9 rfl hk rfl) <| qS 5 rfl <| qd rfl rfl rfl (wM rfl (zk (CX) (ZF X vX CX hX k hkp))) <| qH 6 rfl rfl rfl (wP rfl) <| wF <| qW ⟨0, ?_⟩ ?_
        · (try dsimp only); all_goals rfl
        · (try dsimp only); exact qX _
       ·
        refine qd rfl rfl rfl (zC (j := i) y9 rfl hk rfl) <| qS 0 rfl <| qd rfl rfl rfl (wQ rfl hX.len) <| qS 5 rfl <| qd rfl rfl rfl (wM rfl (zk (CX) (ZF X vX CX hX k hkp))) <| qH 6 rfl rfl rfl (wP rfl) <| wF <| qW ⟨0, ?_⟩ ?_
        · (try dsimp only); all_goals rfl
        · (try dsimp only); exact qX _
      rintro ⟨z, hcut⟩
      replace hcut : z = 0 := hcut
      have hz := hcut
      show Tr _ _ _ ([(1, .slice (some ⟨bA, 0, none⟩) bs.length capA), (2, .pointer (some ⟨b2, 0, none⟩)), (4, .pointer (some ⟨b4, 0, none⟩)), (9, .slice (some ⟨bP, 0, none⟩) l.length capP), (12, ud), (13, .int .i64 i), (14, .int .i64 (qn X k))]) (Cd :: [(b2, .cells vX.toArray 41 (0, 0))] :: [(b4, .cells node0V.toArray 41 (0, 0))] :: CX :: [(bP, .cells (l.flatMap zK ++ spP).toArray 65 (0, 0))] :: [(bA, .cells (iV bs ++ spA).toArray 3 (0, 0))] :: F) _ _
      refine zY (Γ := {pΓ : (List Int) × (Value) × (qV) // (fun (ds2 : List Int) (ud2 : Value) (Cd2 : qV) => SlC 3 1 ud2 ds2.length (iV ds2) Cd2 ∧ ds2 = (if qn X k ≠ 0 then ds ++ [qn X k] else ds) ∧ ds2.length ≤ ds.length + 1) pΓ.1 pΓ.2.1 pΓ.2.2}) (fun g => (fun (ds2 : List Int) (ud2 : Value) (Cd2 : qV) => [(1, .slice (some ⟨bA, 0, none⟩) bs.length capA), (2, .pointer (some ⟨b2, 0, none⟩)), (4, .pointer (some ⟨b4, 0, none⟩)), (9, .slice (some ⟨bP, 0, none⟩) l.length capP), (12, ud2), (13, .int .i64 i)]) g.1.1 g.1.2.1 g.1.2.2) (fun g => (fun (ds2 : List Int) (ud2 : Value) (Cd2 : qV) => Cd2 :: [(b2, .cells vX.toArray 41 (0, 0))] :: [(b4, .cells node0V.toArray 41 (0, 0))] :: CX :: [(bP, .cells (l.flatMap zK ++ spP).toArray 65 (0, 0))] :: [(bA, .cells (iV bs ++ spA).toArray 3 (0, 0))] :: F) g.1.1 g.1.2.1 g.1.2.2) ?_ ?_
      ·
       refine qO <| qA rfl <| q9 (zE rfl rfl) <| qF <| qM rfl (fun hc14 => ?_) (fun hc14 => ?_)
       ·
        refine qK <| qA rfl <| qA rfl <| qG (wK rfl rfl rfl) ?_
        rintro t66 _ ⟨b66, rfl, rfl⟩
        refine qG (wg (m := 1) (sz := 1) rfl rfl hsd (wk (ys := iV [qn X k]) inferInstance rfl rfl) rfl Tryz.underlying39 rfl rfl (by omega)) ?_
        rintro t67 _ ⟨C', hs', rfl⟩
        refine qE rfl <| qT <| qW ⟨(ds ++ [qn X k], t67, C'), ?_⟩ ?_
        · (try dsimp only); exact ⟨by rw [List.length_append]; simpa [iV] using hs', by rw [if_pos hc14], by simp⟩
        · (try dsimp only); exact qX _
       ·
        refine qZ <| qW ⟨(ds, ud, Cd), ?_⟩ ?_
        · (try dsimp only); exact ⟨hsd, by rw [if_neg hc14], by omega⟩
        · (try dsimp only); exact qX _
      rintro ⟨⟨ds2, ud2, Cd2⟩, hcut⟩
      replace hcut : SlC 3 1 ud2 ds2.length (iV ds2) Cd2 ∧ ds2 = (if qn X k ≠ 0 then ds ++ [qn X k] else ds) ∧ ds2.length ≤ ds.length + 1 := hcut
      obtain ⟨hsd2, hd2, hdl2⟩ := hcut
      show Tr _ _ _ ([(1, .slice (some ⟨bA, 0, none⟩) bs.length capA), (2, .pointer (some ⟨b2, 0, none⟩)), (4, .pointer (some ⟨b4, 0, none⟩)), (9, .slice (some ⟨bP, 0, none⟩) l.length capP), (12, ud2), (13, .int .i64 i)]) (Cd2 :: [(b2, .cells vX.toArray 41 (0, 0))] :: [(b4, .cells node0V.toArray 41 (0, 0))] :: CX :: [(bP, .cells (l.flatMap zK ++ spP).toArray 65 (0, 0))] :: [(bA, .cells (iV bs ++ spA).toArray 3 (0, 0))] :: F) _ _
      refine yb wB (show TrS _ _ _ _ [false, false, false, false, false, false, false, false, false, false, false] _ _ _ from ?_)
      refine qH 1 rfl rfl rfl (wO rfl) <| qH 2 rfl rfl rfl (wO rfl) <| qH 3 rfl rfl rfl (ws (j := i) (off := i * 2) rfl rfl rfl (by omega) (by simp)) ?_
      refine qH 5 rfl rfl rfl (wO rfl) <| qH 6 rfl rfl rfl (wO rfl) <| qH 7 rfl rfl rfl (ws (j := i) (off := i * 1) rfl rfl rfl (by omega) (by simp)) ?_
      refine xu (i := 0) (j := 4) (k := 8) (by kernel_rfl) rfl ?_ ?_ ?_
      ·
       refine qd rfl rfl rfl (wQ rfl hX.len) <| wv (i := 4) (j := 8) (by kernel_rfl) rfl ?_ ?_
       ·
        refine qd rfl rfl rfl (zC (j := i) y9 rfl hk rfl) <| qS 8 rfl <| qd rfl rfl rfl (qI rfl (jl ha)) <| qS 9 rfl <| w7 rfl rfl rfl (w5 rfl (we (CX) (Qc X vX CX hX k hkp a))) ?_
        rintro t77 _ ⟨lX, CX', rfl, hX', rfl⟩
        refine qS 10 rfl <| wR rfl rfl rfl (qo rfl rfl hX.len hX'.len hX'.one) <| wF <| qe <| qW ⟨(kO X k a, lX, CX', ds2, ud2, Cd2), ?_⟩ ?_
        · (try dsimp only); exact ⟨hX', hsd2, by omega, by rw [hd2]; exact hcf⟩
        · (try dsimp only); exact qX _
       ·
        refine qd rfl rfl rfl (qI rfl (jl ha)) <| qS 4 rfl <| qd rfl rfl rfl (zC (j := i) y9 rfl hk rfl) <| qS 9 rfl <| w7 rfl rfl rfl (w5 rfl (we (CX) (Qc X vX CX hX k hkp a))) ?_
        rintro t77 _ ⟨lX, CX', rfl, hX', rfl⟩
        refine qS 10 rfl <| wR rfl rfl rfl (qo rfl rfl hX.len hX'.len hX'.one) <| wF <| qe <| qW ⟨(kO X k a, lX, CX', ds2, ud2, Cd2), ?_⟩ ?_
        · (try dsimp only); exact ⟨hX', hsd2, by omega, by rw [hd2]; exact hcf⟩
        · (try dsimp only); exact qX _
      ·
       refine qd rfl rfl rfl (zC (j := i) y9 rfl hk rfl) <| wv (i := 0) (j := 8) (by kernel_rfl) rfl ?_ ?_
       ·
        refine qd rfl rfl rfl (wQ rfl hX.len) <| qS 8 rfl <| qd rfl rfl rfl (qI rfl (jl ha)) <| qS 9 rfl <| w7 rfl rfl rfl (w5 rfl (we (CX) (Qc X vX CX hX k hkp a))) ?_
        rintro t77 _ ⟨lX, CX', rfl, hX', rfl⟩
        refine qS 10 rfl <| wR rfl rfl rfl (qo rfl rfl hX.len hX'.len hX'.one) <| wF <| qe <| qW ⟨(kO X k a, lX, CX', ds2, ud2, Cd2), ?_⟩ ?_
        · (try dsimp only); exact ⟨hX', hsd2, by omega, by rw [hd2]; exact hcf⟩
        · (try dsimp only); exact qX _
       ·
        refine qd rfl rfl rfl (qI rfl (jl ha)) <| qS 0 rfl <| qd rfl rfl rfl (wQ rfl hX.len) <| qS 9 rfl <| w7 rfl rfl rfl (w5 rfl (we (CX) (Qc X vX CX hX k hkp a))) ?_
        rintro t77 _ ⟨lX, CX', rfl, hX', rfl⟩
        refine qS 10 rfl <| wR rfl rfl rfl (qo rfl rfl hX.len hX'.len hX'.one) <| wF <| qe <| qW ⟨(kO X k a, lX, CX', ds2, ud2, Cd2), ?_⟩ ?_
        · (try dsimp only); exact ⟨hX', hsd2, by omega, by rw [hd2]; exact hcf⟩
        · (try dsimp only); exact qX _
      ·
       refine qd rfl rfl rfl (qI rfl (jl ha)) <| wv (i := 0) (j := 4) (by kernel_rfl) rfl ?_ ?_
       ·
        refine qd rfl rfl rfl (wQ rfl hX.len) <| qS 4 rfl <| qd rfl rfl rfl (zC (j := i) y9 rfl hk rfl) <| qS 9 rfl <| w7 rfl rfl rfl (w5 rfl (we (CX) (Qc X vX CX hX k hkp a))) ?_
        rintro t77 _ ⟨lX, CX', rfl, hX', rfl⟩
        refine qS 10 rfl <| wR rfl rfl rfl (qo rfl rfl hX.len hX'.len hX'.one) <| wF <| qe <| qW ⟨(kO X k a, lX, CX', ds2, ud2, Cd2), ?_⟩ ?_
        · (try dsimp only); exact ⟨hX', hsd2, by omega, by rw [hd2]; exact hcf⟩
        · (try dsimp only); exact qX _
       ·
        refine qd rfl rfl rfl (zC (j := i) y9 rfl hk rfl) <| qS 0 rfl <| qd rfl rfl rfl (wQ rfl hX.len) <| qS 9 rfl <| w7 rfl rfl rfl (w5 rfl (we (CX) (Qc X vX CX hX k hkp a))) ?_
        rintro t77 _ ⟨lX, CX', rfl, hX', rfl⟩
        refine qS 10 rfl <| wR rfl rfl rfl (qo rfl rfl hX.len hX'.len hX'.one) <| wF <| qe <| qW ⟨(kO X k a, lX, CX', ds2, ud2, Cd2), ?_⟩ ?_
        · (try dsimp only); exact ⟨hX', hsd2, by omega, by rw [hd2]; exact hcf⟩
        · (try dsimp only); exact qX _
     rintro ⟨⟨X2, vX2, CX2, ds3, ud3, Cd3⟩, hcut⟩
     replace hcut : RefC0 ba bl X2 vX2 CX2 ∧ SlC 3 1 ud3 ds3.length (iV ds3) Cd3 ∧ ds3.length ≤ 800001 + i ∧ zI (l.drop (i + 1)) (bs.drop (i + 1)) (X2, ds3) = zI l bs (W, W.gone) := hcut
     obtain ⟨hX2, hsd3, hdl3, hcf3⟩ := hcut
     show Tr _ _ _ ([(1, .slice (some ⟨bA, 0, none⟩) bs.length capA), (2, .pointer (some ⟨b2, 0, none⟩)), (4, .pointer (some ⟨b4, 0, none⟩)), (9, .slice (some ⟨bP, 0, none⟩) l.length capP), (12, ud3), (13, .int .i64 i)]) (Cd3 :: [(b2, .cells vX2.toArray 41 (0, 0))] :: [(b4, .cells node0V.toArray 41 (0, 0))] :: CX2 :: [(bP, .cells (l.flatMap zK ++ spP).toArray 65 (0, 0))] :: [(bA, .cells (iV bs ++ spA).toArray 3 (0, 0))] :: F) _ _
     refine qK <| qA rfl <| q9 (w9 rfl rfl (by omega)) <| qE rfl <| qT <| w6 ⟨(i + 1, X2, vX2, CX2, ds3, ud3, Cd3), ?_⟩ ?_ ?_
     · (try dsimp only); exact ⟨by omega, hX2, hsd3, by omega, hcf3⟩
     · (try dsimp only); omega
     · (try dsimp only); exact qX _
    ·
     refine wa <| qr <| qt <| qh <| qJ <| qN ?_
     rw [List.drop_of_length_le (by omega), jT] at hcf
     obtain rfl : X = m := by rw [← hm]; unfold yo; rw [hl, ← hcf]
     have hdd : xS W bs = ds := by unfold xS; rw [hl, ← hcf]
     refine qK <| qE rfl <| qF <| qN <| qO <| qE rfl <| qF <| qg <| wS (Γ := {pΓ : (Nat) × (Value) × (qV) // (fun (j : Nat) (us : Value) (Cs : qV) => j ≤ l.length ∧ SlC 54 128 us j ((l.take j).flatMap (fun k => wt (wx X k))) Cs) pΓ.1 pΓ.2.1 pΓ.2.2}) (fun g => (fun (j : Nat) (us : Value) (Cs : qV) => [(2, .pointer (some ⟨b2, 0, none⟩)), (4, .pointer (some ⟨b4, 0, none⟩)), (9, t19), (12, ud), (15, us), (16, .int .i64 j)]) g.1.1 g.1.2.1 g.1.2.2) (fun g => (fun (j : Nat) (us : Value) (Cs : qV) => Cs :: Cd :: [(b2, .cells vX.toArray 41 (0, 0))] :: [(b4, .cells node0V.toArray 41 (0, 0))] :: CX :: Cp :: Cb :: F) g.1.1 g.1.2.1 g.1.2.2) (fun g => (fun (j : Nat) (us : Value) (Cs : qV) => l.length - j) g.1.1 g.1.2.1 g.1.2.2) ⟨(0, .slice none 0 0, []), by dsimp only; exact ⟨by omega, SlC.nil _ _⟩⟩ (qX _) ?_
     rintro ⟨⟨j, us, Cs⟩, hloop⟩
     replace hloop : j ≤ l.length ∧ SlC 54 128 us j ((l.take j).flatMap (fun k => wt (wx X k))) Cs := hloop
     obtain ⟨hj, hss⟩ := hloop
     show Tr _ _ _ ([(2, .pointer (some ⟨b2, 0, none⟩)), (4, .pointer (some ⟨b4, 0, none⟩)), (9, t19), (12, ud), (15, us), (16, .int .i64 j)]) (Cs :: Cd :: [(b2, .cells vX.toArray 41 (0, 0))] :: [(b4, .cells node0V.toArray 41 (0, 0))] :: CX :: Cp :: Cb :: F) _ _
     refine qN <| qO <| qA rfl <| qA rfl <| q9 (w8 (by rw [hvp]; rfl)) ?_
     refine q9 (wJ rfl rfl) <| qF <| qM rfl (fun hc19 => ?_) (fun hc19 => ?_)
     ·
      obtain ⟨k, hk⟩ : ∃ k, l[j]? = some k := ⟨_, List.getElem?_eq_getElem (by omega)⟩
      have hkp := hlp k (List.mem_of_getElem? hk)
      rcases hsp with ⟨-, h0', -⟩ | ⟨bP, capP, spP, rfl, hcsP, rfl, hcapP, hncP⟩
      · omega
      refine qZ <| qJ <| zY (Γ := {pΓ : (Value) × (qV) // (fun (us2 : Value) (Cs2 : qV) => SlC 54 128 us2 (j + 1) ((l.take (j + 1)).flatMap (fun k => wt (wx X k))) Cs2) pΓ.1 pΓ.2}) (fun g => (fun (us2 : Value) (Cs2 : qV) => [(2, .pointer (some ⟨b2, 0, none⟩)), (4, .pointer (some ⟨b4, 0, none⟩)), (9, .slice (some ⟨bP, 0, none⟩) l.length capP), (12, ud), (15, us2), (16, .int .i64 j)]) g.1.1 g.1.2) (fun g => (fun (us2 : Value) (Cs2 : qV) => Cs2 :: Cd :: [(b2, .cells vX.toArray 41 (0, 0))] :: [(b4, .cells node0V.toArray 41 (0, 0))] :: CX :: [(bP, .cells (l.flatMap zK ++ spP).toArray 65 (0, 0))] :: Cb :: F) g.1.1 g.1.2) ?_ ?_
      ·
       refine qg <| yb wB (show TrS _ _ _ _ [false, false, false, false, false, false, false, false, false, false] _ _ _ from ?_)
       refine qH 0 rfl rfl rfl (wO rfl) <| qH 2 rfl rfl rfl (wO rfl) <| qH 3 rfl rfl rfl (wO rfl) <| qH 4 rfl rfl rfl (ws (j := j) (off := j * 2) rfl rfl rfl (by omega) (by simp)) ?_
       refine wv (i := 1) (j := 5) (by kernel_rfl) rfl ?_ ?_
       ·
        refine qd rfl rfl rfl (wQ rfl hX.len) <| qS 5 rfl <| qd rfl rfl rfl (zC (j := j) y9 rfl hk rfl) <| qS 6 rfl <| qd rfl rfl rfl (wM rfl (zk (CX) (KA X vX CX hX hok k hkp))) <| qS 7 rfl <| w7 rfl rfl rfl (wK rfl rfl rfl) ?_
        rintro t91 _ ⟨b91, rfl, rfl⟩
        refine qS 8 rfl <| w7 rfl rfl rfl (wg (m := 1) (sz := 128) rfl rfl hss (wk (ys := wt (wx X k)) inferInstance (by simp [xz]) (by simp)) (wl _) Tryz.underlying105 rfl (by simp [Value.cells]) (by omega)) ?_
        rintro t92 _ ⟨C', hs', rfl⟩
        refine qH 9 rfl rfl rfl (wP rfl) <| wF <| qe <| qW ⟨(_, C'), ?_⟩ ?_
        · (try dsimp only); rw [List.take_add_one, hk, List.flatMap_append]; simpa using hs'
        · (try dsimp only); exact qX _
       ·
        refine qd rfl rfl rfl (zC (j := j) y9 rfl hk rfl) <| qS 1 rfl <| qd rfl rfl rfl (wQ rfl hX.len) <| qS 6 rfl <| qd rfl rfl rfl (wM rfl (zk (CX) (KA X vX CX hX hok k hkp))) <| qS 7 rfl <| w7 rfl rfl rfl (wK rfl rfl rfl) ?_
        rintro t91 _ ⟨b91, rfl, rfl⟩
        refine qS 8 rfl <| w7 rfl rfl rfl (wg (m := 1) (sz := 128) rfl rfl hss (wk (ys := wt (wx X k)) inferInstance (by simp [xz]) (by simp)) (wl _) Tryz.underlying105 rfl (by simp [Value.cells]) (by omega)) ?_
        rintro t92 _ ⟨C', hs', rfl⟩
        refine qH 9 rfl rfl rfl (wP rfl) <| wF <| qe <| qW ⟨(_, C'), ?_⟩ ?_
        · (try dsimp only); rw [List.take_add_one, hk, List.flatMap_append]; simpa using hs'
        · (try dsimp only); exact qX _
      rintro ⟨⟨us2, Cs2⟩, hcut⟩
      replace hcut : SlC 54 128 us2 (j + 1) ((l.take (j + 1)).flatMap (fun k => wt (wx X k))) Cs2 := hcut
      have hss2 := hcut
      show Tr _ _ _ ([(2, .pointer (some ⟨b2, 0, none⟩)), (4, .pointer (some ⟨b4, 0, none⟩)), (9, .slice (some ⟨bP, 0, none⟩) l.length capP), (12, ud), (15, us2), (16, .int .i64 j)]) (Cs2 :: Cd :: [(b2, .cells vX.toArray 41 (0, 0))] :: [(b4, .cells node0V.toArray 41 (0, 0))] :: CX :: [(bP, .cells (l.flatMap zK ++ spP).toArray 65 (0, 0))] :: Cb :: F) _ _
      refine qK <| qA rfl <| q9 (w9 rfl rfl (by omega)) <| qE rfl <| qT <| w6 ⟨(j + 1, us2, Cs2), ?_⟩ ?_ ?_
      · (try dsimp only); exact ⟨by omega, hss2⟩
      · (try dsimp only); omega
      · (try dsimp only); exact qX _
     ·
      refine wa <| qr <| qt <| qh <| qJ <| qN ?_
      obtain rfl : j = l.length := by omega
      rw [List.take_length] at hss
      obtain ⟨pX, gX, cX, rfl, rfl⟩ := hX
      unfold kV
      refine yy (L' := Cs :: Cd :: [(b2, .cells [.int .u32 X.num, .int .u32 X.ver, .int .i64 X.kind, .int .i64 X.size, .int .u32 X.time, .slice (some ⟨ba, 0, none⟩) 1064 1064, .slice (some ⟨bl, 0, none⟩) 32 32, .int .i64 X.sg.at_, .bool X.sg.stale, .int .i64 X.db.at_, .bool X.db.stale, .int .i64 X.self.at_, .bool X.self.stale, .slice pX gX cX].toArray 41 (0, 0))] :: [(b4, .cells node0V.toArray 41 (0, 0))] :: [(ba, .cells ((z7 X.all).flatMap wz ++ []).toArray 125 (0, 0))] :: [(bl, .cells ((wN X.leaves).flatMap wy ++ []).toArray 38 (0, 0))] :: Cp :: Cb :: F) (wZ (by simp)) ?_
      refine qK <| q9 (qB rfl) <| qR (wu rfl rfl rfl) <| qm <| q9 (qB rfl) <| q9 (wA rfl) <| qR (wu rfl rfl rfl) <| qm <| q9 (qB rfl) <| q9 (wA rfl) <| qR (wu rfl rfl rfl) <| qm <| q9 (qB rfl) <| q9 (wA rfl) <| qR (wu rfl rfl rfl) <| qF <| qN <| qO <| qE rfl <| qF <| qg <| wS (Γ := {pΓ : (Nat) // (fun (k : Nat) => k ≤ 32) pΓ}) (fun g => (fun (k : Nat) => [(2, .pointer (some ⟨b2, 0, none⟩)), (4, .pointer (some ⟨b4, 0, none⟩)), (9, t19), (12, ud), (15, us), (17, .int .i64 k)]) g.1) (fun g => (fun (k : Nat) => Cs :: Cd :: [(b2, .cells [.int .u32 X.num, .int .u32 X.ver, .int .i64 X.kind, .int .i64 X.size, .int .u32 X.time, .slice (some ⟨ba, 0, none⟩) 1064 1064, .slice (some ⟨bl, 0, none⟩) 32 32, .int .i64 X.sg.at_, .bool false, .int .i64 X.db.at_, .bool false, .int .i64 X.self.at_, .bool false, .slice none 0 0].toArray 41 (0, 0))] :: [(b4, .cells node0V.toArray 41 (0, 0))] :: [(ba, .cells ((z7 X.all).flatMap wz ++ []).toArray 125 (0, 0))] :: [(bl, .cells ((wN (lvT X k)).flatMap wy ++ []).toArray 38 (0, 0))] :: Cp :: Cb :: F) g.1) (fun g => (fun (k : Nat) => 32 - k) g.1) ⟨0, by dsimp only; exact (by omega)⟩ ((by dsimp only; rw [show lvT X (0 : Nat) = X.leaves from by funext j; unfold lvT; rw [if_neg (by omega)]]; exact qX _)) ?_
      rintro ⟨k, hloop⟩
      replace hloop : k ≤ 32 := hloop
      obtain hk := hloop
      show Tr _ _ _ ([(2, .pointer (some ⟨b2, 0, none⟩)), (4, .pointer (some ⟨b4, 0, none⟩)), (9, t19), (12, ud), (15, us), (17, .int .i64 k)]) (Cs :: Cd :: [(b2, .cells [.int .u32 X.num, .int .u32 X.ver, .int .i64 X.kind, .int .i64 X.size, .int .u32 X.time, .slice (some ⟨ba, 0, none⟩) 1064 1064, .slice (some ⟨bl, 0, none⟩) 32 32, .int .i64 X.sg.at_, .bool false, .int .i64 X.db.at_, .bool false, .int .i64 X.self.at_, .bool false, .slice none 0 0].toArray 41 (0, 0))] :: [(b4, .cells node0V.toArray 41 (0, 0))] :: [(ba, .cells ((z7 X.all).flatMap wz ++ []).toArray 125 (0, 0))] :: [(bl, .cells ((wN (lvT X k)).flatMap wy ++ []).toArray 38 (0, 0))] :: Cp :: Cb :: F) _ _
      refine qN <| qO <| qA rfl <| q9 (wJ rfl rfl) <| qF <| qM rfl (fun hc27 => ?_) (fun hc27 => ?_)
      ·
       refine qZ <| qJ <| qN <| qg <| qK <| q9 (qB rfl) <| q9 (qI rfl rfl) <| qA rfl <| q9 (qx (j := k) (off := k * 2) rfl rfl rfl (by omega) (by simp)) ?_
       refine q9 (wA rfl) <| qR (yU (j := k) (k := 1) (p := X.leaves k) (p' := ⟨(X.leaves k).at_, false⟩) zV rfl rfl (by rw [zF (by omega), lvT_at]) (by omega) rfl rfl) ?_
       refine qT <| qe <| qJ <| qK <| qA rfl <| q9 (w9 rfl rfl (by omega)) <| qE rfl <| qT <| w6 ⟨k + 1, ?_⟩ ?_ ?_
       · (try dsimp only); omega
       · (try dsimp only); omega
       · (try dsimp only); exact yW (by rw [show (wN (lvT X k)).set k ⟨(X.leaves k).at_, false⟩ = wN (upd (lvT X k) (k : Int) ⟨(X.leaves k).at_, false⟩) from zo, lvT_step])
      ·
       refine wa <| qr <| qt <| qh <| qJ <| qN ?_
       obtain rfl : k = 32 := by omega
       refine yb wB (show TrS _ _ _ _ [false, false, false, false, false, false, false, false, false, false] _ _ _ from ?_)
       refine qH 1 rfl rfl rfl (wO rfl) <| qH 2 rfl rfl rfl (wO rfl) <| qH 3 rfl rfl rfl (wO rfl) <| wv (i := 0) (j := 4) (by kernel_rfl) rfl ?_ ?_
       ·
        refine qd rfl rfl rfl (wW rfl) <| qS 4 rfl <| w7 rfl rfl rfl (w5 rfl (we (Cd) (K9 ud Cd ds hsd (by omega)))) ?_
        rintro t113 _ ⟨Cd', hsd', rfl⟩
        refine qS 5 rfl <| wR rfl rfl rfl (qo (l := node0V) rfl rfl rfl rfl rfl) <| qH 6 rfl rfl rfl (wP rfl) <| qH 7 rfl rfl rfl (wP rfl) <| qH 8 rfl rfl rfl (wP rfl) <| qH 9 rfl rfl rfl (wP rfl) <| wF <| zN (qX ([(b4, .cells [.int .u32 X.num, .int .u32 X.ver, .int .i64 X.kind, .int .i64 X.size, .int .u32 X.time, .slice (some ⟨ba, 0, none⟩) 1064 1064, .slice (some ⟨bl, 0, none⟩) 32 32, .int .i64 X.sg.at_, .bool false, .int .i64 X.db.at_, .bool false, .int .i64 X.self.at_, .bool false, .slice none 0 0].toArray 41 (0, 0))] :: [(ba, .cells ((z7 X.all).flatMap wz ++ []).toArray 125 (0, 0))] :: [(bl, .cells ((wN (lvT X 32)).flatMap wy ++ []).toArray 38 (0, 0))] :: Cp :: Cs :: Cd' :: Cb :: F)) <| zN (wZ (L' := [(b4, .cells [.int .u32 X.num, .int .u32 X.ver, .int .i64 X.kind, .int .i64 X.size, .int .u32 X.time, .slice (some ⟨ba, 0, none⟩) 1064 1064, .slice (some ⟨bl, 0, none⟩) 32 32, .int .i64 X.sg.at_, .bool false, .int .i64 X.db.at_, .bool false, .int .i64 X.self.at_, .bool false, .slice none 0 0].toArray 41 (0, 0))] :: ((ba, .cells ((z7 X.all).flatMap wz ++ []).toArray 125 (0, 0)) :: (bl, .cells ((wN (lvT X 32)).flatMap wy ++ []).toArray 38 (0, 0)) :: []) :: Cp :: Cs :: Cd' :: Cb :: F) (by simp)) ?_
        refine qJ <| qy <| Je (((ba, .cells ((z7 X.all).flatMap wz ++ []).toArray 125 (0, 0)) :: (bl, .cells ((wN (lvT X 32)).flatMap wy ++ []).toArray 38 (0, 0)) :: []) :: Cp :: Cs :: Cd' :: Cb :: F) (.inl rfl) rfl (zU rfl) (qu rfl) (qu rfl) (qu rfl) (qu rfl) <| ⟨_, _, _, _, _, _, _, _, rfl, ?_, hsp, hss, by rw [hdd]; exact hsd', rfl⟩
        rw [show zA W bs = ZO X from by unfold zA; rw [hm]]
        exact ⟨_, _, rfl, SlC.nil _ _, rfl⟩
       ·
        refine w7 rfl rfl rfl (w5 rfl (we (Cd) (K9 ud Cd ds hsd (by omega)))) ?_
        rintro t113 _ ⟨Cd', hsd', rfl⟩
        refine qS 0 rfl <| qd rfl rfl rfl (wW rfl) <| qS 5 rfl <| wR rfl rfl rfl (qo (l := node0V) rfl rfl rfl rfl rfl) <| qH 6 rfl rfl rfl (wP rfl) <| qH 7 rfl rfl rfl (wP rfl) <| qH 8 rfl rfl rfl (wP rfl) <| qH 9 rfl rfl rfl (wP rfl) <| wF <| zN (qX ([(b4, .cells [.int .u32 X.num, .int .u32 X.ver, .int .i64 X.kind, .int .i64 X.size, .int .u32 X.time, .slice (some ⟨ba, 0, none⟩) 1064 1064, .slice (some ⟨bl, 0, none⟩) 32 32, .int .i64 X.sg.at_, .bool false, .int .i64 X.db.at_, .bool false, .int .i64 X.self.at_, .bool false, .slice none 0 0].toArray 41 (0, 0))] :: [(ba, .cells ((z7 X.all).flatMap wz ++ []).toArray 125 (0, 0))] :: [(bl, .cells ((wN (lvT X 32)).flatMap wy ++ []).toArray 38 (0, 0))] :: Cp :: Cs :: Cd' :: Cb :: F)) <| zN (wZ (L' := [(b4, .cells [.int .u32 X.num, .int .u32 X.ver, .int .i64 X.kind, .int .i64 X.size, .int .u32 X.time, .slice (some ⟨ba, 0, none⟩) 1064 1064, .slice (some ⟨bl, 0, none⟩) 32 32, .int .i64 X.sg.at_, .bool false, .int .i64 X.db.at_, .bool false, .int .i64 X.self.at_, .bool false, .slice none 0 0].toArray 41 (0, 0))] :: ((ba, .cells ((z7 X.all).flatMap wz ++ []).toArray 125 (0, 0)) :: (bl, .cells ((wN (lvT X 32)).flatMap wy ++ []).toArray 38 (0, 0)) :: []) :: Cp :: Cs :: Cd' :: Cb :: F) (by simp)) ?_
        refine qJ <| qy <| Je (((ba, .cells ((z7 X.all).flatMap wz ++ []).toArray 125 (0, 0)) :: (bl, .cells ((wN (lvT X 32)).flatMap wy ++ []).toArray 38 (0, 0)) :: []) :: Cp :: Cs :: Cd' :: Cb :: F) (.inl rfl) rfl (zU rfl) (qu rfl) (qu rfl) (qu rfl) (qu rfl) <| ⟨_, _, _, _, _, _, _, _, rfl, ?_, hsp, hss, by rw [hdd]; exact hsd', rfl⟩
        rw [show zA W bs = ZO X from by unfold zA; rw [hm]]
        exact ⟨_, _, rfl, SlC.nil _ _, rfl⟩
end
end Go.Proofs.YtjikpomndbkfgaaGreatDoor
namespace Go.Sx
open Go
instance At.fst2 (a b : Nat) (oa ob : Obj) (L : Res) : At ([(a, oa), (b, ob)] :: L) a oa (fun o' => [(a, o'), (b, ob)] :: L) := ⟨[], (b, ob) :: L.flatten, by simp, fun _ => by simp⟩
instance At.snd2 (a b : Nat) (oa ob : Obj) (L : Res) : At ([(a, oa), (b, ob)] :: L) b ob (fun o' => [(a, oa), (b, o')] :: L) := ⟨[(a, oa)], L.flatten, by simp, fun _ => by simp⟩
end Go.Sx
namespace Go.Proofs.YtjikpomndbkfgaaGreatDoor
open Go Go.Sx Go.Nd
set_option maxRecDepth 10000
section
variable {w0 : World} {L F : Res} {ba bl : Nat}
def stV (p : Nat) (v : List Value) (md : Nat) (nx : Int) (dn : Bool) : List Value := .pointer (some ⟨p, 0, none⟩) :: (v ++ [.map (some md), .int .i64 nx, .bool dn])
section
variable {p md : Nat} {v : List Value} {nx : Int} {dn : Bool}
theorem jw (h : v.length = 14) : (stV p v md nx dn).length = 18 := by simp [stV, h]
theorem xb : wY (stV p v md nx dn) 0 = some (.pointer (some ⟨p, 0, none⟩)) := rfl
theorem jU (h : v.length = 14) : ((stV p v md nx dn).drop 1).take 14 = v := by simp [stV, ← h]
theorem K3 (h : v.length = 14) {i : Nat} (hi : i < 14) : wY (stV p v md nx dn) (1 + i) = wY v i := by
  rw [zB, zB, Nat.add_comm]; unfold stV; rw [List.getElem?_cons_succ, List.getElem?_append_left (by omega)]
theorem J1 (h : v.length = 14) : wY (stV p v md nx dn) 15 = some (.map (some md)) := by
  rw [zB]; unfold stV; rw [List.getElem?_cons_succ, List.getElem?_append_right (by omega), h]; rfl
theorem M2 (h : v.length = 14) : wY (stV p v md nx dn) 16 = some (.int .i64 nx) := by
  rw [zB]; unfold stV; rw [List.getElem?_cons_succ, List.getElem?_append_right (by omega), h]; rfl
theorem M3 (h : v.length = 14) : wY (stV p v md nx dn) 17 = some (.bool dn) := by
  rw [zB]; unfold stV; rw [List.getElem?_cons_succ, List.getElem?_append_right (by omega), h]; rfl
theorem stV_sp (q : Nat) : (stV p v md nx dn).set 0 (.pointer (some ⟨q, 0, none⟩)) = stV q v md nx dn := rfl
theorem stV_sn (h : v.length = 14) (n' : Int) : (stV p v md nx dn).set 16 (.int .i64 n') = stV p v md n' dn := by
  unfold stV; rw [List.set_cons_succ, List.set_append_right _ _ (by omega), h]; rfl
theorem Qx {v' : List Value} (h : v.length = 14) (h' : v'.length = 14) : (stV p v md nx dn).take 1 ++ v' ++ (stV p v md nx dn).drop (1 + v'.length) = stV p v' md nx dn := by
  rw [h']; unfold stV
  rw [show 1 + 14 = 14 + 1 from rfl, List.drop_succ_cons, List.drop_append_of_le_length (by omega), List.drop_of_length_le (by omega)]
  rfl
end
abbrev StD (x p : Nat) (v : List Value) (md : Nat) (nx : Int) (dn : Bool) (od : Obj) : qV := [(x, .cells (stV p v md nx dn).toArray 44 (0, 0)), (md, od)]
def gS (dn : Bool) (D : Int → Option Sec) (a : Int) : Option Sec := if dn then none else D a
theorem Z7 (x p md : Nat) (v : List Value) (nx : Int) (dn : Bool) (od : Obj) (D : Int → Option Sec) (hv : v.length = 14) (hD : MapF (Value.int .i64) jE D od) :
    Ks (.func (.func 11) #[.pointer (some ⟨x, 0, none⟩)] #[]) (StD x p v md nx dn od) (gS dn D) := by
  intro w0 F a
  refine Wo (first := [.pointer (some ⟨x, 0, none⟩)]) (captured := []) (vs := [.int .i64 a]) ?_
  refine qi (E0 := [(0, _), (1, _)]) (N := 27) Tryz.func11 rfl rfl rfl rfl ?_
  refine qO <| qG (qj) ?_
  rintro t4 _ ⟨b4, rfl, rfl⟩
  refine qE rfl <| qm <| qA rfl <| q9 (qQ rfl) <| q9 (qB rfl) <| q9 (qI rfl (J1 hv)) <| qA rfl <| q9 (ye (z := Sec.zero) (q := a) rfl rfl hD) <| qA rfl <| q9 (qf rfl rfl) <| q9 (qf rfl rfl) <| qG (qj) ?_
  rintro t6 _ ⟨b6, rfl, rfl⟩
  refine qR (qo rfl rfl (by simp) (by simp) (wl _)) ?_
  refine qE rfl <| qF <| qN <| qO <| qA rfl <| q9 (qQ rfl) <| q9 (qB rfl) <| q9 (qI rfl (M3 hv)) <| qA rfl <| zy (s := 21) rfl (fun hg2_4 => ?_) (fun hg2_4 => ?_)
  ·
   refine qL rfl rfl rfl <| qL rfl rfl rfl <| q9 (qq rfl rfl) <| qF <| zM rfl <| qO <| q9 (kI (z := jE Sec.zero) rfl Tryz.underlying55 rfl (fun _ h => by cases h) (fun _ _ h => by cases h; exact ⟨_, inferInstance⟩)) ?_
   refine qR (qo rfl rfl (by simp) (by simp) (wl _)) ?_
   refine qE rfl <| qF <| qy <| qv <| wU (StD x p v md nx dn od :: F) (.inl rfl) rfl (zR rfl (by first | exact zZ _ | simp)) (qu rfl) ?_
   have hg : gS dn D a = none := by
     unfold gS
     first
     | (rw [if_pos hg2_4]; done)
     | (rw [if_neg (by rw [hg2_4]; simp)]; simpa using hc2)
   exact ⟨by rw [hg]; rfl, rfl⟩
  ·
   refine qD rfl rfl (qP rfl) <| qD rfl rfl (kX rfl) <| q9 (qU rfl rfl) <| qF <| yB rfl (fun hc2 => ?_) (fun hc2 => ?_)
   ·
    refine qO <| q9 (kI (z := jE Sec.zero) rfl Tryz.underlying55 rfl (fun _ h => by cases h) (fun _ _ h => by cases h; exact ⟨_, inferInstance⟩)) ?_
    refine qR (qo rfl rfl (by simp) (by simp) (wl _)) ?_
    refine qE rfl <| qF <| qy <| qv <| wU (StD x p v md nx dn od :: F) (.inl rfl) rfl (zR rfl (by first | exact zZ _ | simp)) (qu rfl) ?_
    have hg : gS dn D a = none := by
      unfold gS
      first
      | (rw [if_pos hg2_4]; done)
      | (rw [if_neg (by rw [hg2_4]; simp)]; simpa using hc2)
    exact ⟨by rw [hg]; rfl, rfl⟩
   ·
    refine qZ <| qJ <| qO <| q9 (wQ rfl (by simp)) ?_
    refine qR (qo rfl rfl (by simp) (by simp) (wl _)) ?_
    refine qE rfl <| qF <| qy <| wU (StD x p v md nx dn od :: F) (.inl rfl) rfl (zR rfl (by first | exact zZ _ | simp)) (qu rfl) ?_
    have hg : gS dn D a = D a := by unfold gS; rw [if_neg (by rw [hg2_4]; simp)]
    have hs : (D a).isSome = true := by simpa using hc2
    exact ⟨by rw [hg, if_pos hs]; rfl, rfl⟩
theorem read_bad_ok (p : Nat) (a m : Int) (rv : Value) (h : a < 0 ∨ m < 0) :
    FnT Tryz.prog w0 9 #[.pointer (some ⟨p, 0, none⟩), .int .i64 a, .int .i64 m, rv] F (fun v L' => v = .tuple #[.slice none 0 0, .int .i64 1] ∧ L' = F) := by
  refine qi (E0 := [(0, _), (1, _), (2, _), (3, _)]) (N := 72) Tryz.func9 rfl rfl rfl rfl ?_
  refine qO <| qE rfl <| qE rfl <| qF <| qN <| qO <| qA rfl <| q9 (wJ rfl rfl) <| qA rfl <| qY (s := 19) rfl (fun hg1_2 => ?_) (fun hg1_2 => ?_)
  ·
   refine qL rfl rfl rfl <| qL rfl rfl rfl <| q9 (qq rfl rfl) <| qF <| zM rfl <| qO <| qE rfl <| qE rfl <| qF <| qy <| qv <| wU F (.inl rfl) rfl (qu rfl) (qu rfl) ?_
   exact ⟨rfl, rfl⟩
  ·
   refine qD rfl rfl (qP rfl) <| qD rfl rfl (wJ rfl rfl) <| q9 (qU rfl rfl) <| qF <| qM rfl (fun hc1 => ?_) (fun hc1 => ?_)
   ·
    refine qO <| qE rfl <| qE rfl <| qF <| qy <| qv <| wU F (.inl rfl) rfl (qu rfl) (qu rfl) ?_
    exact ⟨rfl, rfl⟩
   · (exfalso; omega)
theorem ZU {xs ys : List Int} {i : Nat} {a b : Int} (ha : xs[i]? = some a) (hb : ys[i]? = some b) (h : xs.take i = ys.take i) (e : a = b) : xs.take (i + 1) = ys.take (i + 1) := by
  rw [List.take_add_one, List.take_add_one, h, ha, hb, e]
theorem M4 {xs ys : List Int} {i : Nat} {a b : Int} (ha : xs[i]? = some a) (hb : ys[i]? = some b) (e : a ≠ b) : xs ≠ ys := by
  intro h; subst h; rw [ha] at hb; exact e (Option.some.inj hb)
theorem ints_ok (u1 u2 : Value) (C1 C2 : qV) (xs ys : List Int) (h1 : SlC 3 1 u1 xs.length (iV xs) C1) (h2 : SlC 3 1 u2 ys.length (iV ys) C2) (hl : xs.length ≤ 1000000) :
    FnT Tryz.prog w0 21 #[u1, u2] (C1 :: C2 :: F) (fun v L' => v = .bool (decide (xs = ys)) ∧ L' = C1 :: C2 :: F) := by
  obtain ⟨p1, c1, hv1⟩ := h1.slice
  obtain ⟨p2, c2, hv2⟩ := h2.slice
  refine qi (E0 := [(0, _), (1, _)]) (N := 26) Tryz.func21 rfl rfl rfl rfl ?_
  refine qO <| qE rfl <| qF <| qN <| qO <| qA rfl <| q9 (w8 (by rw [hv1]; rfl)) ?_
  refine qA rfl <| q9 (w8 (by rw [hv2]; rfl)) ?_
  refine q9 (zE rfl rfl) <| qF <| qM rfl (fun hc1 => ?_) (fun hc1 => ?_)
  ·
   refine qO <| qE rfl <| qF <| qy <| qv <| wC (C1 :: C2 :: F) (.inl rfl) rfl (qu rfl) ?_
   exact ⟨congrArg Value.bool (decide_eq_false (fun h : xs = ys => hc1 (by rw [h]))).symm, rfl⟩
  ·
   refine qZ <| qJ <| qN <| qO <| qA rfl <| q9 (w8 (by rw [hv1]; rfl)) ?_
   refine qA rfl <| qF <| qg <| wS (Γ := {pΓ : (Nat) // (fun (i : Nat) => i ≤ xs.length ∧ xs.take i = ys.take i) pΓ}) (fun g => (fun (i : Nat) => [(0, u1), (1, u2), (12, .int .i64 xs.length), (13, .int .i64 i)]) g.1) (fun g => (fun (i : Nat) => C1 :: C2 :: F) g.1) (fun g => (fun (i : Nat) => xs.length - i) g.1) ⟨0, by dsimp only; exact ⟨by omega, rfl⟩⟩ (qX _) ?_
   rintro ⟨i, hloop⟩
   replace hloop : i ≤ xs.length ∧ xs.take i = ys.take i := hloop
   obtain ⟨hi, he⟩ := hloop
   show Tr _ _ _ ([(0, u1), (1, u2), (12, .int .i64 xs.length), (13, .int .i64 i)]) (C1 :: C2 :: F) _ _
   refine qO <| q9 (wJ rfl rfl) <| qF <| qN <| qM rfl (fun hc4 => ?_) (fun hc4 => ?_)
   ·
    refine qZ <| qJ <| qN <| qg <| qO <| qA rfl <| qE rfl <| qF <| qN ?_
    obtain ⟨a, ha⟩ : ∃ a, xs[i]? = some a := ⟨_, List.getElem?_eq_getElem (by omega)⟩
    obtain ⟨b, hb⟩ : ∃ b, ys[i]? = some b := ⟨_, List.getElem?_eq_getElem (by omega)⟩
    rcases h1 with ⟨-, h0, -⟩ | ⟨bA, capA, spA, rfl, hcsA, rfl, hcapA, hncA⟩
    · omega
    rcases h2 with ⟨-, h0, -⟩ | ⟨bB, capB, spB, rfl, hcsB, rfl, hcapB, hncB⟩
    · omega
    refine wT wB <| wD [(16, .pure _), (17, .pure _), (18, .pure _), (19, .pure _), (20, .pure _), (21, .pure _), (22, .pure _), (23, .pure _)] (by kernel_rfl) rfl rfl rfl wm (qC rfl (fun X => qP rfl) <| qC rfl (fun X => qP rfl) <| qC rfl (fun X => qx (j := i) (off := i * 1) rfl rfl rfl (by omega) (by simp)) <| qC rfl (fun X => qI rfl (jl ha)) <| qC rfl (fun X => qP rfl) <| qC rfl (fun X => qP rfl) <| qC rfl (fun X => qx (j := i) (off := i * 1) rfl rfl rfl (by omega) (by simp)) <| qC rfl (fun X => qI rfl (jl hb)) <| ParH.nil rfl) ?_
    dsimp only [ze, List.drop, List.length]
    refine wE (by kernel_rfl) (zE rfl rfl) ?_
    refine wI <| qJ <| qM rfl (fun hc6 => ?_) (fun hc6 => ?_)
    ·
     refine qO <| qE rfl <| qF <| qy <| wH <| qv <| k5 <| wH <| qv <| wC ([(bA, .cells (iV xs ++ spA).toArray 3 (0, 0))] :: [(bB, .cells (iV ys ++ spB).toArray 3 (0, 0))] :: F) (.inl rfl) rfl (qu rfl) ?_
     exact ⟨congrArg Value.bool (decide_eq_false (M4 ha hb hc6)).symm, rfl⟩
    ·
     refine qZ <| qe <| qJ <| qK <| q9 (w9 rfl rfl (by omega)) <| qA rfl <| qT <| w6 ⟨i + 1, ?_⟩ ?_ ?_
     · (try dsimp only); exact ⟨by omega, ZU ha hb he (by omega)⟩
     · (try dsimp only); omega
     · (try dsimp only); exact qX _
   ·
    refine wa <| qr <| qt <| qh <| qJ <| qO <| qE rfl <| qF <| qy <| wC (C1 :: C2 :: F) (.inl rfl) rfl (qu rfl) ?_
    rw [List.take_of_length_le (by omega), List.take_of_length_le (by omega)] at he
    exact ⟨congrArg Value.bool (decide_eq_true he).symm, rfl⟩
theorem equal_ok (u1 u2 : Value) (C1 C2 : qV) (xs ys : List Int) (h1 : SlC 5 1 u1 xs.length (u8s xs) C1) (h2 : SlC 5 1 u2 ys.length (u8s ys) C2) (hl : xs.length ≤ 1000000) :
    FnT Tryz.prog w0 30 #[u1, u2] (C1 :: C2 :: F) (fun v L' => v = .bool (decide (xs = ys)) ∧ L' = C1 :: C2 :: F) := by
  obtain ⟨p1, c1, hv1⟩ := h1.slice
  obtain ⟨p2, c2, hv2⟩ := h2.slice
  refine qi (E0 := [(0, _), (1, _)]) (N := 26) Tryz.func30 rfl rfl rfl rfl ?_
  refine qO <| qE rfl <| qF <| qN <| qO <| qA rfl <| q9 (w8 (by rw [hv1]; rfl)) ?_
  refine qA rfl <| q9 (w8 (by rw [hv2]; rfl)) ?_
  refine q9 (zE rfl rfl) <| qF <| qM rfl (fun hc1 => ?_) (fun hc1 => ?_)
  ·
   refine qO <| qE rfl <| qF <| qy <| qv <| wC (C1 :: C2 :: F) (.inl rfl) rfl (qu rfl) ?_
   exact ⟨congrArg Value.bool (decide_eq_false (fun h : xs = ys => hc1 (by rw [h]))).symm, rfl⟩
  ·
   refine qZ <| qJ <| qN <| qO <| qE rfl <| qF <| qg <| wS (Γ := {pΓ : (Nat) // (fun (i : Nat) => i ≤ xs.length ∧ xs.take i = ys.take i) pΓ}) (fun g => (fun (i : Nat) => [(0, u1), (1, u2), (5, .int .i64 i)]) g.1) (fun g => (fun (i : Nat) => C1 :: C2 :: F) g.1) (fun g => (fun (i : Nat) => xs.length - i) g.1) ⟨0, by dsimp only; exact ⟨by omega, rfl⟩⟩ (qX _) ?_
   rintro ⟨i, hloop⟩
   replace hloop : i ≤ xs.length ∧ xs.take i = ys.take i := hloop
   obtain ⟨hi, he⟩ := hloop
   show Tr _ _ _ ([(0, u1), (1, u2), (5, .int .i64 i)]) (C1 :: C2 :: F) _ _
   refine qN <| qO <| qA rfl <| qA rfl <| q9 (w8 (by rw [hv1]; rfl)) ?_
   refine q9 (wJ rfl rfl) <| qF <| qM rfl (fun hc4 => ?_) (fun hc4 => ?_)
   ·
    refine qZ <| qJ <| qN <| qg <| qN ?_
    obtain ⟨a, ha⟩ : ∃ a, xs[i]? = some a := ⟨_, List.getElem?_eq_getElem (by omega)⟩
    obtain ⟨b, hb⟩ : ∃ b, ys[i]? = some b := ⟨_, List.getElem?_eq_getElem (by omega)⟩
    rcases h1 with ⟨-, h0, -⟩ | ⟨bA, capA, spA, rfl, hcsA, rfl, hcapA, hncA⟩
    · omega
    rcases h2 with ⟨-, h0, -⟩ | ⟨bB, capB, spB, rfl, hcsB, rfl, hcapB, hncB⟩
    · omega
    refine wT wB <| wD [(17, .pure _), (18, .pure _), (19, .pure _), (20, .pure _), (21, .pure _), (22, .pure _), (23, .pure _), (24, .pure _)] (by kernel_rfl) rfl rfl rfl wm (qC rfl (fun X => qP rfl) <| qC rfl (fun X => qP rfl) <| qC rfl (fun X => qx (j := i) (off := i * 1) rfl rfl rfl (by omega) (by simp)) <| qC rfl (fun X => qI rfl (show wY (u8s xs ++ spA) (i * 1) = some (.int .u8 a) by rw [zB, Nat.mul_one, List.getElem?_append_left (by simp [u8s]; omega)]; simp [u8s, ha])) <| qC rfl (fun X => qP rfl) <| qC rfl (fun X => qP rfl) <| qC rfl (fun X => qx (j := i) (off := i * 1) rfl rfl rfl (by omega) (by simp)) <| qC rfl (fun X => qI rfl (show wY (u8s ys ++ spB) (i * 1) = some (.int .u8 b) by rw [zB, Nat.mul_one, List.getElem?_append_left (by simp [u8s]; omega)]; simp [u8s, hb])) <| ParH.nil rfl) ?_
    dsimp only [ze, List.drop, List.length]
    refine wE (by kernel_rfl) (zE rfl rfl) ?_
    refine wI <| qJ <| qM rfl (fun hc6 => ?_) (fun hc6 => ?_)
    ·
     refine qO <| qE rfl <| qF <| qy <| wH <| qv <| k5 <| wH <| qv <| wC ([(bA, .cells (u8s xs ++ spA).toArray 5 (0, 0))] :: [(bB, .cells (u8s ys ++ spB).toArray 5 (0, 0))] :: F) (.inl rfl) rfl (qu rfl) ?_
     exact ⟨congrArg Value.bool (decide_eq_false (M4 ha hb hc6)).symm, rfl⟩
    ·
     refine qZ <| qe <| qJ <| qK <| qA rfl <| q9 (w9 rfl rfl (by omega)) <| qE rfl <| qT <| w6 ⟨i + 1, ?_⟩ ?_ ?_
     · (try dsimp only); exact ⟨by omega, ZU ha hb he (by omega)⟩
     · (try dsimp only); omega
     · (try dsimp only); exact qX _
   ·
    refine wa <| qr <| qt <| qh <| qJ <| qO <| qE rfl <| qF <| qy <| wC (C1 :: C2 :: F) (.inl rfl) rfl (qu rfl) ?_
    rw [List.take_of_length_le (by omega), List.take_of_length_le (by omega)] at he
    exact ⟨congrArg Value.bool (decide_eq_true he).symm, rfl⟩
end
end Go.Proofs.YtjikpomndbkfgaaGreatDoor
namespace Go.Sx
open Go
section
variable {P : Program} {N : Nat} {w0 : World} {E : Env} {L : Res}
theorem run_equalIn_ptrNil {w : World} (n : Nat) (t e : TypeId) (p : Option Addr) (h : P.underlying t = some (.pointer e)) :
    (Op.equalIn (n + 1) t (.pointer p) (.pointer none)).run P w = .ok p.isNone w := by
  cases p <;> simp [Op.equalIn, qz h]
theorem run_neq_ptrNil {w : World} (t e : TypeId) (p : Option Addr) (h : P.underlying t = some (.pointer e)) :
    (binOp .neq t (.pointer p) (.pointer none)).run P w = .ok (.bool !p.isNone) w := by
  simp only [binOp]
  simp [show Op.equal t (.pointer p) (.pointer none) = Op.equalIn (9999 + 1) t (.pointer p) (.pointer none) from rfl, run_equalIn_ptrNil 9999 t e p h]
theorem op_neqPtrNil {x y : Operand} {t yt ty e : TypeId} {p : Option Addr} (hx : opv E x = some (.pointer p)) (hy : opv E y = some (.pointer none)) (h : P.underlying t = some (.pointer e)) : Op1 P N w0 E L (.binOp .neq t x y yt) ty (.bool !p.isNone) L :=
  .of_run fun o a w h1 _ h3 h4 => ⟨w, by
    have hg : (eqGuard .neq t x y (.pointer p) (.pointer none)).run P w = .ok () w := rfl
    rw [execOp, h1]
    simp only [Sem.run_bind, h3.eval hx, h3.eval hy, hg, Result.andThen_ok, run_neq_ptrNil t e p h]
    rfl, h4⟩
end
end Go.Sx
namespace Go.Proofs.YtjikpomndbkfgaaGreatDoor
open Go Go.Sx Go.Nd
set_option maxRecDepth 10000
section
variable {w0 : World} {L F : Res} {ba bl : Nat}
theorem ref_num {W : RS} {v : List Value} {C : qV} (h : RefC ba bl W v C) : wY v 0 = some (.int .u32 W.num) := by
  obtain ⟨ug, Cg, rfl, -, -⟩ := h; rfl
theorem ref_ver {W : RS} {v : List Value} {C : qV} (h : RefC ba bl W v C) : wY v 1 = some (.int .u32 W.ver) := by
  obtain ⟨ug, Cg, rfl, -, -⟩ := h; rfl
theorem ZG {W : RS} {v : List Value} {C : qV} (h : RefC ba bl W v C) : wY v 11 = some (.int .i64 W.self.at_) := by
  obtain ⟨ug, Cg, rfl, -, -⟩ := h; rfl
theorem JG (x p md : Nat) (v : List Value) (nx : Int) (dn : Bool) (od : Obj) (W : RS) (C : qV) (hw : RefC ba bl W v C) (k : Int × Int) :
    FnT Tryz.prog w0 32 #[.pointer (some ⟨x, 0, none⟩), .agg (zK k).toArray] (StD x p v md nx dn od :: F) (fun v' L' => v' = .agg (WC W.num W.ver k).toArray ∧ L' = StD x p v md nx dn od :: F) := by
  rw [show zK k = [.int .i64 k.1, .int .i64 k.2] from rfl]
  have hv := hw.len
  refine qi (E0 := [(0, _), (1, _)]) (N := 20) Tryz.func32 rfl rfl rfl rfl ?_
  refine qO <| qG (wq rfl) ?_
  rintro t3 _ ⟨b3, rfl, rfl⟩
  refine qG (qj) ?_
  rintro t4 _ ⟨b4, rfl, rfl⟩
  refine qF <| qN <| wT wB <| wD [(5, .pure _), (6, .pure _), (7, .pure _), (8, .pure _), (9, .pure _), (10, .pure _), (11, .pure _), (12, .pure _), (13, .pure _), (14, .pure _), (15, .pure _), (16, .pure _), (17, .pure _), (18, .pure _)] (by kernel_rfl) rfl rfl rfl wm (qC rfl (fun X => qB rfl) <| qC rfl (fun X => qI rfl rfl) <| qC rfl (fun X => qP rfl) <| qC rfl (fun X => qQ rfl) <| qC rfl (fun X => qB rfl) <| qC rfl (fun X => wA rfl) <| qC rfl (fun X => qI rfl ((K3 hv (by decide)).trans (ref_num hw))) <| qC rfl (fun X => qP rfl) <| qC rfl (fun X => qQ rfl) <| qC rfl (fun X => qB rfl) <| qC rfl (fun X => wA rfl) <| qC rfl (fun X => qI rfl ((K3 hv (by decide)).trans (ref_ver hw))) <| qC rfl (fun X => qB rfl) <| qC rfl (fun X => qI rfl rfl) <| ParH.nil rfl) ?_
  dsimp only [ze, List.drop, List.length]
  refine wE (by kernel_rfl) (wX rfl) ?_
  refine kT (by kernel_rfl) (wc rfl rfl rfl rfl) ?_
  refine wI <| qJ <| qy <| wC (StD x p v md nx dn od :: F) (.inl rfl) rfl (zU rfl) ?_
  exact ⟨rfl, rfl⟩
theorem Xs (G : qV) (hg : kj G) : FnT Tryz.prog w0 7 #[.int .i64 0] (G :: F) (fun v' L' => ∃ x p md ba bl v C Cn od, v' = .tuple #[.pointer (some ⟨x, 0, none⟩), .bool true] ∧ NodeC p (Zb 3 7 1) Cn ∧ RefC ba bl (WZ 3 7 1) v C ∧
      MapF (Value.int .i64) jE (fun _ => none) od ∧ L' = StD x p v md 100 false od :: Cn :: C :: G :: F) := by
  refine qi (E0 := [(0, _)]) (N := 21) Tryz.func7 rfl rfl rfl rfl ?_
  refine qO <| qE rfl <| qE rfl <| qm <| qA rfl <| q9 (W4 rfl rfl) ?_
  rw [show zb .and .i64 0 1 = 0 from by decide]
  refine q9 (w9 rfl rfl (by omega)) <| qE rfl <| qF <| zY (Γ := {pΓ : (Nat) × (Nat) × (Nat) × (Nat) × (Nat) × (List Value) × (qV) × (qV) × (Obj) // (fun (x : Nat) (p : Nat) (md : Nat) (ba : Nat) (bl : Nat) (v : List Value) (C : qV) (Cn : qV) (od : Obj) => NodeC p (Zb 3 7 1) Cn ∧ RefC ba bl (WZ 3 7 1) v C ∧ MapF (Value.int .i64) jE (fun _ => none) od) pΓ.1 pΓ.2.1 pΓ.2.2.1 pΓ.2.2.2.1 pΓ.2.2.2.2.1 pΓ.2.2.2.2.2.1 pΓ.2.2.2.2.2.2.1 pΓ.2.2.2.2.2.2.2.1 pΓ.2.2.2.2.2.2.2.2}) (fun g => (fun (x : Nat) (p : Nat) (md : Nat) (ba : Nat) (bl : Nat) (v : List Value) (C : qV) (Cn : qV) (od : Obj) => [(4, .pointer (some ⟨x, 0, none⟩))]) g.1.1 g.1.2.1 g.1.2.2.1 g.1.2.2.2.1 g.1.2.2.2.2.1 g.1.2.2.2.2.2.1 g.1.2.2.2.2.2.2.1 g.1.2.2.2.2.2.2.2.1 g.1.2.2.2.2.2.2.2.2) (fun g => (fun (x : Nat) (p : Nat) (md : Nat) (ba : Nat) (bl : Nat) (v : List Value) (C : qV) (Cn : qV) (od : Obj) => StD x p v md 100 false od :: Cn :: C :: G :: F) g.1.1 g.1.2.1 g.1.2.2.1 g.1.2.2.2.1 g.1.2.2.2.2.1 g.1.2.2.2.2.2.1 g.1.2.2.2.2.2.2.1 g.1.2.2.2.2.2.2.2.1 g.1.2.2.2.2.2.2.2.2) ?_ ?_
  ·
   refine qK <| qA rfl <| qG (w5 rfl (we (G) (Vn G hg 3 7 1))) ?_
   rintro t9 _ ⟨p, Cn, rfl, hn, rfl⟩
   refine qA rfl <| qG (w5 rfl (rnew_ok 3 7 1)) ?_
   rintro t11 _ ⟨ba, bl, l, C, rfl, hr, rfl⟩
   obtain ⟨ug, Cg, hlv, hsg, hC⟩ := id hr
   rw [hlv]
   unfold kV
   refine qG (kY) ?_
   rintro t12 _ ⟨b12, rfl, rfl⟩
   refine q9 (wX rfl) <| qG (wq rfl) ?_
   rintro t14 _ ⟨b14, rfl, rfl⟩
   refine qE rfl <| qT <| qW ⟨(b14, p, b12, ba, bl, l, C, Cn, .map #[] 0), ?_⟩ ?_
   · (try dsimp only); exact ⟨hn, hr, ka _ _⟩
   · (try dsimp only); exact (by rw [hlv]; simp only [StD, stV, kV, List.cons_append, List.nil_append]; exact (yj (by intro f; simp only [List.flatten_cons, List.flatten_nil, List.append_nil, List.countP_append, List.countP_cons, List.countP_nil]; omega)))
  rintro ⟨⟨x, p, md, ba, bl, v, C, Cn, od⟩, hcut⟩
  replace hcut : NodeC p (Zb 3 7 1) Cn ∧ RefC ba bl (WZ 3 7 1) v C ∧ MapF (Value.int .i64) jE (fun _ => none) od := hcut
  obtain ⟨hn, hr, hD⟩ := hcut
  show Tr _ _ _ ([(4, .pointer (some ⟨x, 0, none⟩))]) (StD x p v md 100 false od :: Cn :: C :: G :: F) _ _
  refine qN <| wT wB <| wD [(15, .pure _), (16, .pure _), (17, .pure _), (18, .pure _), (19, .pure _), (20, .pure _), (2, .pure _)] (by kernel_rfl) rfl rfl rfl wm (qC rfl (fun X => qP rfl) <| qC rfl (fun X => qP rfl) <| qC rfl (fun X => qQ rfl) <| qC rfl (fun X => qB rfl) <| qC rfl (fun X => qI rfl rfl) <| qC rfl (fun X => op_neqPtrNil rfl rfl Tryz.underlying33) <| qC rfl (fun X => zS rfl) <| ParH.nil rfl) ?_
  dsimp only [ze, List.drop, List.length]
  refine wE (by kernel_rfl) (zS rfl) ?_
  refine wI <| qJ <| qy <| Qs (.inl rfl) rfl (qu rfl) (qu rfl) ?_
  exact ⟨x, p, md, ba, bl, v, C, Cn, od, rfl, hn, hr, hD, rfl⟩
end
end Go.Proofs.YtjikpomndbkfgaaGreatDoor
namespace Go.Sx
open Go
section
variable {P : Program} {N : Nat} {w0 : World} {E : Env} {L : Res}
theorem ZK {x y : Operand} {t t' ty e sz by_ n m : Nat} {v yv : Value} {cs ys : List Value} {C : qV} {F : Res} {z : Value} {dt' : TypeDesc} [ht : y7 P t e] [hsz : TySize P e sz] [hb : TyBytes P e by_] [hz : TyZero P e z]
    (hx : opv E x = some v) (hy : opv E y = some yv) [ht1 : Take1 L C F] (hs : SlC e sz v n cs C) (hr : Reads w0 L yv m sz ys) (h1 : ys.all (·.oneCell') = true)
    (ht' : P.underlying t' = some dt') (hdt : X0 dt' = false) (hzs : z.cells.size = sz) (hroom : (n + m) * by_ ≤ 140737488355328) (hby : Nat.ble 1 by_ = true := by rfl) :
    OpT P N w0 E L (.call ⟨.builtin .append, #[x, y], #[t, t']⟩) ty (fun v' L' => ∃ C' X C2, SlC e sz v' (n + m) (cs ++ ys) C' ∧ SlC e sz v n cs C2 ∧ (∀ (w0 : World) (F : Res) (w : World), Own w0 (C' :: X :: F) w → Own w0 (C2 :: F) w) ∧ L' = C' :: X :: F) :=
  .of_runE fun o a w e1 _ h3 h4 => by
    obtain ⟨cc, h5⟩ := yV (P := P) (w := w) (vs := [v, yv]) h3 (by simp [jW, hx, hy]) e1
    have hown : Own w0 (C :: F) w := h4.perm ht1.perm
    have hby' : 1 ≤ by_ := Nat.le_of_ble_eq_true hby
    obtain ⟨p, c, hyv, hylen, hyr⟩ := hr.h
    have hfc : ∀ d, (Builtin.firstCells sz m yv).run P { w with drawn := d } = .ok ys.toArray { w with drawn := d } := fun d => hr.firstCells (h4.draw0 d) (fun h => by
      rw [hyv] at h; cases h
      rcases hyr with h | ⟨_, _, _, _, _, h, _⟩
      · exact h
      · cases h)
    have hlen : (Builtin.lenOf yv).run P w = .ok m w := by rw [hyv]; simp [Builtin.lenOf]
    have happ : ∀ (s : Value), (builtin .append #[t, t'] o.type cc #[s, yv]).run P w = ((Builtin.append_ #[t, t'] o.type #[s, yv]).run P w).andThen fun v w' => .ok (.value v) w' := fun s => by simp [builtin]
    have h5' : (execOp a.eval o).run P w = ((Builtin.append_ #[t, t'] o.type #[v, yv]).run P w).andThen fun v w' => .ok (.value v) w' := by rw [h5]; exact happ v
    have grown : ∀ (q : Option Addr) (cap : Nat), v = .slice q n cap → (∀ d, (Builtin.firstCells sz n v).run P { w with drawn := d } = .ok cs.toArray { w with drawn := d }) → ¬ n + m ≤ cap → cs.length = n * sz →
        ∃ v' L' w', (execOp a.eval o).run P w = .ok (.value v') w' ∧ (∃ C' X C2, SlC e sz v' (n + m) (cs ++ ys) C' ∧ SlC e sz v n cs C2 ∧ (∀ (w0 : World) (F : Res) (w : World), Own w0 (C' :: X :: F) w → Own w0 (C2 :: F) w) ∧ L' = C' :: X :: F) ∧ Own w0 L' w' := by
      intro q cap hv hold hgt hcs
      obtain ⟨nc, d, hle, hdd, hrun⟩ := WM (ty := o.type) (cs := cs) (ys := ys) ht.h hsz.s hb hz.h ht' hdt hlen q hgt hroom hby' (fun d => by rw [← hv]; exact hold d) hfc
      refine ⟨_, [(w.heap.size, .cells (cs.toArray ++ ys.toArray ++ Builtin.zeroCells z.cells (nc - (n + m))) e (0, 0))] :: C :: F, _, by rw [h5', hv, hrun]; rfl, ⟨_, C, C, .inr ⟨w.heap.size, nc, (Builtin.zeroCells z.cells (nc - (n + m))).toList, rfl, by rw [List.length_append, hcs, hylen, Nat.add_mul], by simp, ?_, hle⟩, hs, fun _ _ _ h => h.tail, rfl⟩, ?_⟩
      · simp only [List.length_append, hcs, hylen, Array.length_toList, jt, hzs]
        rw [← Nat.add_mul, ← Nat.add_mul]
        congr 1
        omega
      · have := (hown.draw d hdd).alloc (.cells (cs.toArray ++ ys.toArray ++ Builtin.zeroCells z.cells (nc - (n + m))) e (0, 0))
        exact this
    rcases id hs with ⟨rfl, rfl, rfl, rfl⟩ | ⟨b, cap, spare, rfl, hcs, rfl, hcap, hnc⟩
    · by_cases hm : 0 + m ≤ 0
      · have hm0 : m = 0 := by omega
        subst hm0
        have hys : ys = [] := List.length_eq_zero_iff.1 (by rw [hylen]; simp)
        subst hys
        have hrun := jg (ty := o.type) (w := w) (n := 0) (cap := 0) (p := none) ht.h hsz.s ht' hdt hlen (hfc w.drawn) (by omega)
        exact ⟨_, _, w, by rw [h5', hrun]; rfl, ⟨[], [], [], .inl ⟨rfl, rfl, rfl, rfl⟩, hs, fun _ _ _ h => h.tail, rfl⟩, wZ (by simp) w hown⟩
      · exact grown none 0 rfl (fun d => by simp [Builtin.firstCells]) hm (by simp)
    · by_cases hm : n + m ≤ cap
      · have hrun := jg (ty := o.type) (w := w) (p := some ⟨b, 0, none⟩) ht.h hsz.s ht' hdt hlen (hfc w.drawn) hm
        have hfit : n * sz + ys.length ≤ (cs ++ spare).length := by
          rw [hcap, hylen, ← Nat.add_mul]
          exact Nat.mul_le_mul_right _ hm
        obtain ⟨w', h6, h7⟩ := jN (P := P) (off := n * sz) (vs := ys) (l := cs ++ spare) hown (At.head b _ F) rfl hfit h1
        have hcells : (cs ++ spare).take (n * sz) ++ ys ++ (cs ++ spare).drop (n * sz + ys.length) = cs ++ ys ++ spare.drop ys.length := by
          rw [← hcs, List.take_left, List.drop_append]
          simp [List.drop_of_length_le]
        rw [hcells] at h7
        refine ⟨_, _, w', ?_, ⟨[(b, .cells (cs ++ ys ++ spare.drop ys.length).toArray e (0, 0))], [], [(b, .cells (cs ++ ys ++ spare.drop ys.length).toArray e (0, 0))], .inr ⟨b, cap, spare.drop ys.length, rfl, by rw [List.length_append, hcs, hylen, Nat.add_mul], rfl, ?_, hm⟩, .inr ⟨b, cap, ys ++ spare.drop ys.length, rfl, hcs, by rw [List.append_assoc], ?_, hnc⟩, fun _ _ _ h => wZ (by simp) _ h, rfl⟩, wZ (by simp) w' h7⟩
        · rw [h5', hrun]
          simp only [yh, Nat.zero_add, h6, Result.andThen_ok]
        · simp only [List.length_append] at hcap hfit
          simp only [List.length_append, List.length_drop]
          omega
        · simp only [List.length_append] at hcap hfit
          simp only [List.length_append, List.length_drop]
          omega
      · refine grown (some ⟨b, 0, none⟩) cap rfl (fun d => ?_) hm hcs
        simp only [Builtin.firstCells]
        exact Yo (w := { w with drawn := d }) ((hown.draw0 d).get (At.head b _ F)) (by simp [← hcs]) hcs
end
end Go.Sx
namespace Go.Proofs.YtjikpomndbkfgaaGreatDoor
open Go Go.Sx Go.Nd
set_option maxRecDepth 10000
section
variable {w0 : World} {L F : Res} {ba bl : Nat}
def jJ (nx : Int) (m : Nat) : List Int := (List.range m).map fun i : Nat => nx + i
theorem Wz (nx : Int) (m : Nat) : (jJ nx m).length = m := by simp [jJ]
theorem atsOf_succ (nx : Int) (m : Nat) : jJ nx (m + 1) = jJ nx m ++ [nx + m] := by simp [jJ, List.range_succ]
theorem JY (nx : Int) {m i : Nat} (h : i < m) : (jJ nx m)[i]? = some (nx + i) := by simp [jJ, h]
theorem JX {nx : Int} {m : Nat} (h1 : 1 ≤ nx) (h2 : nx + m ≤ 65536) : ∀ a ∈ jJ nx m, 1 ≤ a ∧ a ≤ 65535 := by
  intro a ha
  obtain ⟨i, hi, rfl⟩ := List.mem_map.1 ha
  have := List.mem_range.1 hi
  omega
def xc (f : Int × Int → Sec) (D : Int → Option Sec) (l : List ((Int × Int) × Int)) : Int → Option Sec := l.foldl (fun D p => upd D p.2 (some (f p.1))) D
def QO (D : Int → Option Sec) (l : List Int) : Int → Option Sec := l.foldl (fun D g => upd D g none) D
theorem putR_num (W : RS) (k : Int × Int) (a : Int) : (kO W k a).num = W.num ∧ (kO W k a).ver = W.ver ∧ (kO W k a).kind = W.kind ∧ (kO W k a).size = W.size ∧ (kO W k a).time = W.time ∧ (kO W k a).gone = W.gone := by
  unfold kO; split <;> first | exact ⟨rfl, rfl, rfl, rfl, rfl, rfl⟩ | (split <;> first | exact ⟨rfl, rfl, rfl, rfl, rfl, rfl⟩ | (split <;> first | exact ⟨rfl, rfl, rfl, rfl, rfl, rfl⟩ | (split <;> exact ⟨rfl, rfl, rfl, rfl, rfl, rfl⟩)))
theorem WE : ∀ (l : List (Int × Int)) (bs : List Int) (s : RS × List Int), (zI l bs s).1.num = s.1.num ∧ (zI l bs s).1.ver = s.1.ver ∧ (zI l bs s).1.kind = s.1.kind ∧ (zI l bs s).1.size = s.1.size ∧ (zI l bs s).1.time = s.1.time := by
  intro l
  induction l with
  | nil => intro bs s; rw [jT]; exact ⟨rfl, rfl, rfl, rfl, rfl⟩
  | cons k l ih =>
    intro bs s
    cases bs with
    | nil => exact ⟨rfl, rfl, rfl, rfl, rfl⟩
    | cons a bs =>
      rw [zI]
      have h := ih bs (kO s.1 k a, if qn s.1 k ≠ 0 then s.2 ++ [qn s.1 k] else s.2)
      have h2 := putR_num s.1 k a
      refine ⟨h.1.trans h2.1, h.2.1.trans h2.2.1, h.2.2.1.trans h2.2.2.1, h.2.2.2.1.trans h2.2.2.2.1, h.2.2.2.2.trans h2.2.2.2.2.1⟩
theorem commitR_num (W : RS) (bs : List Int) : (zA W bs).num = W.num ∧ (zA W bs).ver = W.ver ∧ (zA W bs).kind = W.kind ∧ (zA W bs).size = W.size ∧ (zA W bs).time = W.time := WE (zl W) bs (W, W.gone)
theorem commitFR_len : ∀ (l : List (Int × Int)) (bs : List Int) (s : RS × List Int), (zI l bs s).2.length ≤ s.2.length + l.length := by
  intro l
  induction l with
  | nil => intro bs s; rw [jT]; simp
  | cons k l ih =>
    intro bs s
    cases bs with
    | nil => simp [zI]
    | cons a bs =>
      rw [zI]
      refine Nat.le_trans (ih _ _) ?_
      dsimp only
      split
      · simp; omega
      · simp
theorem zip_step {A B : Type} {l : List A} {m : List B} {i : Nat} {a : A} {b : B} (h1 : l[i]? = some a) (h2 : m[i]? = some b) : (l.zip m).take (i + 1) = (l.zip m).take i ++ [(a, b)] := by
  rw [List.take_add_one, show (l.zip m)[i]? = some (a, b) from by rw [List.getElem?_zip_eq_some]; exact ⟨h1, h2⟩]; rfl
theorem putDs_step {f : Int × Int → Sec} {D : Int → Option Sec} {l : List (Int × Int)} {m : List Int} {i : Nat} {k : Int × Int} {b : Int} (h1 : l[i]? = some k) (h2 : m[i]? = some b) :
    xc f D ((l.zip m).take (i + 1)) = upd (xc f D ((l.zip m).take i)) b (some (f k)) := by
  rw [zip_step h1 h2]; unfold xc; rw [List.foldl_append]; rfl
theorem delDs_step {D : Int → Option Sec} {l : List Int} {i : Nat} {g : Int} (h : l[i]? = some g) : QO D (l.take (i + 1)) = upd (QO D (l.take i)) g none := by
  rw [List.take_add_one, h]; unfold QO; rw [List.foldl_append]; rfl
theorem KR (H : jL w0) (HP : QA) (x p md : Nat) (v : List Value) (nx : Int) (dn : Bool) (od : Obj) (n : NS) (W : RS) (D : Int → Option Sec) (Cn C G : qV) (l : List (Int × Int)) (ats : List Int)
    (hl : zl W = l) (hats : ats = jJ nx l.length)
    (hn : NodeC p n Cn) (hw : RefC ba bl W v C) (hD : MapF (Value.int .i64) jE D od) (hg : kj G) (hok : NOk n) (hfl : NFl n) (hpp : yO n = l) (hnum : n.num = W.num) (hver : n.ver = W.ver)
    (hnx1 : 1 ≤ nx) (hnx2 : nx + l.length ≤ 65536) (hgn : n.gone.length ≤ 800000) (hgl : W.gone.length ≤ 800000) (hr : ∀ a ∈ ats, 1 ≤ a ∧ a ≤ 65535) (hrok : ROk (yo W ats))
    (hsec : ∀ k ∈ l, yg (Wa n ats) (xk hok hr) (W7 hfl ats) k = wx (yo W ats) k)
    (hdead : srt (xU n ats) = srt (xS W ats)) :
    FnT Tryz.prog w0 14 #[.pointer (some ⟨x, 0, none⟩)] (StD x p v md nx dn od :: Cn :: C :: G :: F) (fun r L' => r = .bool true ∧ ∃ v' C' Cn' od', NodeC p (xo n ats) Cn' ∧ RefC ba bl (zA W ats) v' C' ∧
      MapF (Value.int .i64) jE (QO (xc (wx (yo W ats)) D (l.zip ats)) (srt (xS W ats))) od' ∧ L' = StD x p v' md (nx + l.length) dn od' :: Cn' :: C' :: G :: F) := by
  have hv := hw.len
  have hll : l.length ≤ 1100 := hl ▸ xR W
  have hal : ats.length = l.length := by rw [hats, Wz]
  have hatg : ∀ i : Nat, i < l.length → ats[i]? = some (nx + i) := fun i hi => by rw [hats]; exact JY nx hi
  have hcm := commitR_num W ats
  have hdl : (srt (xS W ats)).length ≤ 801100 := by
    rw [Ws]
    refine Nat.le_trans (commitFR_len _ _ _) ?_
    rw [hl]; dsimp only; omega
  have hdl2 : (srt (xU n ats)).length ≤ 801100 := hdead ▸ hdl
  obtain ⟨f, hf⟩ : ∃ f, wx (yo W ats) = f := ⟨_, rfl⟩
  have hflat : l.flatMap (fun k => kQ n.num n.ver k (yg (Wa n ats) (xk hok hr) (W7 hfl ats) k)) = l.flatMap (fun k => kQ W.num W.ver k (f k)) := by
    rw [hnum, hver]
    have : ∀ m : List (Int × Int), (∀ k ∈ m, k ∈ l) → m.flatMap (fun k => kQ W.num W.ver k (yg (Wa n ats) (xk hok hr) (W7 hfl ats) k)) = m.flatMap (fun k => kQ W.num W.ver k (f k)) := by
      intro m
      induction m with
      | nil => intro _; rfl
      | cons k m ih =>
        intro hm
        rw [List.flatMap_cons, List.flatMap_cons, ih (fun q hq => hm q (by simp [hq])), hsec k (hm k (by simp)), hf]
    exact this l (fun _ h => h)
  rw [hf]
  refine qi (E0 := [(0, _)]) (N := 155) Tryz.func14 rfl rfl rfl rfl ?_
  refine qO <| qE rfl <| qm <| qE rfl <| qF <| qN <| qO <| qA rfl <| q9 (qQ rfl) <| q9 (qB rfl) <| q9 (zp (r := v) rfl (jU hv) hv) <| qG (w5 rfl (we (C) (QF W v C hw))) ?_
  rintro t22 _ ⟨Cp, hsp, rfl⟩
  rw [hl] at hsp
  obtain ⟨pp, cp, rfl⟩ := hsp.slice
  refine q9 (w8 rfl) <| qA rfl <| qF <| qg <| wS (Γ := {pΓ : (Nat) × (Value) × (qV) // (fun (i : Nat) (us : Value) (Ca : qV) => i ≤ l.length ∧ SlC 3 1 us i (iV (jJ nx i)) Ca) pΓ.1 pΓ.2.1 pΓ.2.2}) (fun g => (fun (i : Nat) (us : Value) (Ca : qV) => [(0, .pointer (some ⟨x, 0, none⟩)), (3, us), (23, .int .i64 l.length), (24, .int .i64 i)]) g.1.1 g.1.2.1 g.1.2.2) (fun g => (fun (i : Nat) (us : Value) (Ca : qV) => Ca :: StD x p v md (nx + i) dn od :: Cn :: C :: G :: F) g.1.1 g.1.2.1 g.1.2.2) (fun g => (fun (i : Nat) (us : Value) (Ca : qV) => l.length - i) g.1.1 g.1.2.1 g.1.2.2) ⟨(0, .slice none 0 0, []), by dsimp only; exact ⟨by omega, SlC.nil _ _⟩⟩ ((by dsimp only; rw [show nx + ((0 : Nat) : Int) = nx from by omega]; exact qX _)) ?_
  rintro ⟨⟨i, us, Ca⟩, hloop⟩
  replace hloop : i ≤ l.length ∧ SlC 3 1 us i (iV (jJ nx i)) Ca := hloop
  obtain ⟨hi, hsa⟩ := hloop
  show Tr _ _ _ ([(0, .pointer (some ⟨x, 0, none⟩)), (3, us), (23, .int .i64 l.length), (24, .int .i64 i)]) (Ca :: StD x p v md (nx + i) dn od :: Cn :: C :: G :: F) _ _
  refine qO <| q9 (wJ rfl rfl) <| qF <| qN <| qM rfl (fun hc3 => ?_) (fun hc3 => ?_)
  ·
   refine qZ <| qJ <| qN <| qg <| qO <| qA rfl <| qA rfl <| q9 (qQ rfl) <| q9 (qB rfl) <| q9 (qI rfl (M2 hv)) <| qG (wK rfl rfl rfl) ?_
   rintro t31 _ ⟨b31, rfl, rfl⟩
   refine qG (wg (m := 1) (sz := 1) rfl rfl hsa (wk (ys := iV [nx + i]) inferInstance rfl rfl) rfl Tryz.underlying39 rfl rfl (by omega)) ?_
   rintro t32 _ ⟨C', hs', rfl⟩
   refine qE rfl <| qF <| qK <| qA rfl <| q9 (qQ rfl) <| q9 (qB rfl) <| q9 (qI rfl (M2 hv)) <| q9 (w9 rfl rfl (by omega)) <| q9 (qQ rfl) <| q9 (qB rfl) <| qR (yM rfl rfl (by rw [jw hv]; decide) rfl) ?_
   refine qT ?_
   rw [stV_sn hv]
   refine qe <| qJ <| qK <| q9 (w9 rfl rfl (by omega)) <| qA rfl <| qT <| w6 ⟨(i + 1, t32, C'), ?_⟩ ?_ ?_
   · (try dsimp only); exact ⟨by omega, by rw [atsOf_succ]; simpa [iV] using hs'⟩
   · (try dsimp only); omega
   · (try dsimp only); exact (by rw [show nx + ((i + 1 : Nat) : Int) = nx + i + 1 from by omega]; exact qX _)
  ·
   obtain rfl : i = l.length := by omega
   rw [← hats] at hsa
   refine wa <| qr <| qt <| qh <| qJ <| qN <| zY (Γ := {pΓ : (Int) × (qV) // (fun (e : Int) (Ca2 : qV) => e = 1 ∧ SlC 3 1 us l.length (iV ats) Ca2) pΓ.1 pΓ.2}) (fun g => (fun (e : Int) (Ca2 : qV) => [(0, .pointer (some ⟨x, 0, none⟩)), (3, us), (6, .int .i64 e)]) g.1.1 g.1.2) (fun g => (fun (e : Int) (Ca2 : qV) => Ca2 :: StD x p v md (nx + l.length) dn od :: Cn :: C :: G :: F) g.1.1 g.1.2) ?_ ?_
   ·
    refine yb wB (show TrS _ _ _ _ [false, false, false, false, false, false, false, false, false, false, false, false, false, false, false] _ _ _ from ?_)
    refine qH 0 rfl rfl rfl (wO rfl) <| qH 1 rfl rfl rfl (y4 rfl) <| qH 2 rfl rfl rfl (wo rfl) <| qH 4 rfl rfl rfl (wO rfl) <| wv (i := 3) (j := 5) (by kernel_rfl) rfl ?_ ?_
    ·
     refine qd rfl rfl rfl (qI rfl xb) <| qS 5 rfl <| w7 rfl rfl rfl (wK rfl rfl rfl) ?_
     rintro t47 _ ⟨b47, rfl, rfl⟩
     refine qS 6 rfl <| w7 rfl rfl rfl (ZK (m := 1) (sz := 1) rfl rfl hsa (wk (ys := iV [5]) inferInstance rfl rfl) rfl Tryz.underlying39 rfl rfl (by omega)) ?_
     rintro t48 _ ⟨C', X, Ca2, hs', hsa2, hX, rfl⟩
     have hs2 : SlC 3 1 t48 (ats ++ [5]).length (iV (ats ++ [5])) C' := by rw [List.length_append, hal]; simpa [iV] using hs'
     refine qS 7 rfl <| qd rfl rfl rfl (wM rfl (XD (Cn) (G) (C') (QX H HP p n Cn G C' hn hg hok t48 (ats ++ [5]) hs2 (by rw [hpp, List.length_append, hal]; simp) (by rw [List.length_append, hal]; simp; omega)))) ?_
     refine qH 8 rfl rfl rfl (wO rfl) <| qH 9 rfl rfl rfl (qk rfl rfl) <| qH 10 rfl rfl rfl (qk rfl rfl) <| qH 11 rfl rfl rfl (qk rfl rfl) <| qH 12 rfl rfl rfl (wP rfl) <| qH 13 rfl rfl rfl (wP rfl) <| qH 14 rfl rfl rfl (wP rfl) <| wF <| qW ⟨(1, Ca2), ?_⟩ ?_
     · (try dsimp only); exact ⟨rfl, hsa2⟩
     · (try dsimp only); exact (fun w hw => hX _ _ w (qX (C' :: X :: StD x p v md (nx + l.length) dn od :: Cn :: C :: G :: F) w hw))
    ·
     refine w7 rfl rfl rfl (wK rfl rfl rfl) ?_
     rintro t47 _ ⟨b47, rfl, rfl⟩
     refine wv (i := 3) (j := 6) (by kernel_rfl) rfl ?_ ?_
     ·
      refine qd rfl rfl rfl (qI rfl xb) <| qS 6 rfl <| w7 rfl rfl rfl (ZK (m := 1) (sz := 1) rfl rfl hsa (wk (ys := iV [5]) inferInstance rfl rfl) rfl Tryz.underlying39 rfl rfl (by omega)) ?_
      rintro t48 _ ⟨C', X, Ca2, hs', hsa2, hX, rfl⟩
      have hs2 : SlC 3 1 t48 (ats ++ [5]).length (iV (ats ++ [5])) C' := by rw [List.length_append, hal]; simpa [iV] using hs'
      refine qS 7 rfl <| qd rfl rfl rfl (wM rfl (XD (Cn) (G) (C') (QX H HP p n Cn G C' hn hg hok t48 (ats ++ [5]) hs2 (by rw [hpp, List.length_append, hal]; simp) (by rw [List.length_append, hal]; simp; omega)))) ?_
      refine qH 8 rfl rfl rfl (wO rfl) <| qH 9 rfl rfl rfl (qk rfl rfl) <| qH 10 rfl rfl rfl (qk rfl rfl) <| qH 11 rfl rfl rfl (qk rfl rfl) <| qH 12 rfl rfl rfl (wP rfl) <| qH 13 rfl rfl rfl (wP rfl) <| qH 14 rfl rfl rfl (wP rfl) <| wF <| qW ⟨(1, Ca2), ?_⟩ ?_
      · (try dsimp only); exact ⟨rfl, hsa2⟩
      · (try dsimp only); exact (fun w hw => hX _ _ w (qX (C' :: X :: StD x p v md (nx + l.length) dn od :: Cn :: C :: G :: F) w hw))
     ·
      refine w7 rfl rfl rfl (ZK (m := 1) (sz := 1) rfl rfl hsa (wk (ys := iV [5]) inferInstance rfl rfl) rfl Tryz.underlying39 rfl rfl (by omega)) ?_
      rintro t48 _ ⟨C', X, Ca2, hs', hsa2, hX, rfl⟩
      have hs2 : SlC 3 1 t48 (ats ++ [5]).length (iV (ats ++ [5])) C' := by rw [List.length_append, hal]; simpa [iV] using hs'
      refine qS 3 rfl <| qd rfl rfl rfl (qI rfl xb) <| qS 7 rfl <| qd rfl rfl rfl (wM rfl (XD (Cn) (G) (C') (QX H HP p n Cn G C' hn hg hok t48 (ats ++ [5]) hs2 (by rw [hpp, List.length_append, hal]; simp) (by rw [List.length_append, hal]; simp; omega)))) ?_
      refine qH 8 rfl rfl rfl (wO rfl) <| qH 9 rfl rfl rfl (qk rfl rfl) <| qH 10 rfl rfl rfl (qk rfl rfl) <| qH 11 rfl rfl rfl (qk rfl rfl) <| qH 12 rfl rfl rfl (wP rfl) <| qH 13 rfl rfl rfl (wP rfl) <| qH 14 rfl rfl rfl (wP rfl) <| wF <| qW ⟨(1, Ca2), ?_⟩ ?_
      · (try dsimp only); exact ⟨rfl, hsa2⟩
      · (try dsimp only); exact (fun w hw => hX _ _ w (qX (C' :: X :: StD x p v md (nx + l.length) dn od :: Cn :: C :: G :: F) w hw))
   rintro ⟨⟨e, Ca2⟩, hcut⟩
   replace hcut : e = 1 ∧ SlC 3 1 us l.length (iV ats) Ca2 := hcut
   obtain ⟨he, hsa2⟩ := hcut
   show Tr _ _ _ ([(0, .pointer (some ⟨x, 0, none⟩)), (3, us), (6, .int .i64 e)]) (Ca2 :: StD x p v md (nx + l.length) dn od :: Cn :: C :: G :: F) _ _
   refine qO <| qA rfl <| q9 (zE rfl rfl) <| qF <| qM rfl (fun hc8 => ?_) (fun hc8 => ?_)
   · (exfalso; omega)
   ·
    refine qZ <| qJ <| qN ?_
    have hsa3 : SlC 3 1 us ats.length (iV ats) Ca2 := by rw [hal]; exact hsa2
    refine qK <| qA rfl <| q9 (qQ rfl) <| q9 (qB rfl) <| q9 (qI rfl xb) <| qA rfl <| qG (w5 rfl (jD (Cn) (G) (Ca2) (commit_ok H HP p n Cn G Ca2 hn hg hok hfl us ats hsa3 (by rw [hpp, hal]) hr hgn))) ?_
    rintro t61 _ ⟨ui, ud, Ci, Cd, Cn', rfl, hsi, hsd, hn', rfl⟩
    refine qA rfl <| q9 (qf rfl rfl) <| q9 (qf rfl rfl) <| q9 (qf rfl rfl) <| qE rfl <| qE rfl <| qE rfl <| qT ?_
    rw [hpp, hflat] at hsi
    rw [← Ws] at hsd
    obtain ⟨pi, ci, hvi⟩ := hsi.slice
    obtain ⟨pd, cd, hvd⟩ := hsd.slice
    refine qJ <| qO <| qA rfl <| q9 (qQ rfl) <| q9 (qB rfl) <| q9 (zp (r := v) rfl (jU hv) hv) <| qA rfl <| qG (w5 rfl (kG (C) (Ca2) (rcommit_ok W v C Ca2 hw us ats hsa3 (by rw [hl, hal]) hr hrok hgl))) ?_
    rintro t71 _ ⟨lv, up, us2, ud2, C', Cp2, Cs2, Cd2, rfl, hw', hsp2, hss2, hsd3, rfl⟩
    refine qA rfl <| q9 (qf rfl rfl) <| q9 (qf rfl rfl) <| q9 (qf rfl rfl) <| q9 (qf rfl rfl) <| q9 (qf rfl rfl) <| qG (qj) ?_
    rintro t10 _ ⟨b10, rfl, rfl⟩
    refine qR (qo (l := node0V) rfl rfl rfl hw'.len hw'.one) <| qE rfl <| qE rfl <| qE rfl <| qE rfl <| qT ?_
    rw [hl] at hsp2
    rw [hl, hf] at hss2
    obtain ⟨pp2, cp2, hvp2⟩ := hsp2.slice
    refine qJ <| qO <| qA rfl <| q9 (wQ rfl hw'.len) <| q9 (qQ rfl) <| q9 (qB rfl) <| qR (yw (r := stV p lv md (nx + l.length) dn) rfl rfl (Qx hv hw'.len) (by rw [jw hv, hw'.len]; decide) hw'.len hw'.one) ?_
    refine qF <| qN <| qO <| qA rfl <| q9 (zE rfl rfl) <| qA rfl <| qY (s := 83) rfl (fun hg13_2 => ?_) (fun hg13_2 => ?_)
    · exact absurd rfl hg13_2
    ·
     refine qD rfl rfl (qP rfl) <| qD rfl rfl (zE rfl rfl) <| q9 (qU rfl rfl) <| qA rfl <| qY (s := 87) rfl (fun hg13_6 => ?_) (fun hg13_6 => ?_)
     · exact absurd rfl hg13_6
     ·
      refine qD rfl rfl (qP rfl) <| qD rfl rfl (qP rfl) <| qD rfl rfl (wM rfl (k6 (Cd) (Cd2) (ints_ok ud ud2 Cd Cd2 _ _ hsd hsd3 (by omega)))) <| qD rfl rfl (kX rfl) <| q9 (qU rfl rfl) <| qA rfl <| zy (s := 93) rfl (fun hg13_12 => ?_) (fun hg13_12 => ?_)
      · (rw [hdead] at hg13_12; simp at hg13_12)
      ·
       refine qD rfl rfl (qP rfl) <| qD rfl rfl (w8 (by rw [hvi]; rfl)) ?_
       refine qD rfl rfl (qP rfl) <| qD rfl rfl (w8 (by rw [hvp2]; rfl)) ?_
       refine qD rfl rfl (zE rfl rfl) <| q9 (qU rfl rfl) <| qF <| qM rfl (fun hc13 => ?_) (fun hc13 => ?_)
       · exact absurd rfl hc13
       ·
        refine qZ <| qJ <| qN <| qO <| qA rfl <| q9 (w8 (by rw [hvi]; rfl)) ?_
        refine qA rfl <| qF <| qg <| wS (Γ := {pΓ : (Nat) × (Obj) // (fun (i : Nat) (oi : Obj) => i ≤ l.length ∧ MapF (Value.int .i64) jE (xc f D ((l.zip ats).take i)) oi) pΓ.1 pΓ.2}) (fun g => (fun (i : Nat) (oi : Obj) => [(0, .pointer (some ⟨x, 0, none⟩)), (3, us), (7, ui), (8, ud), (11, up), (12, us2), (101, .int .i64 l.length), (102, .int .i64 i)]) g.1.1 g.1.2) (fun g => (fun (i : Nat) (oi : Obj) => Ci :: Cd :: Cp2 :: Cs2 :: Ca2 :: StD x p lv md (nx + l.length) dn oi :: Cn' :: C' :: G :: F) g.1.1 g.1.2) (fun g => (fun (i : Nat) (oi : Obj) => l.length - i) g.1.1 g.1.2) ⟨(0, od), by dsimp only; exact ⟨by omega, hD⟩⟩ (qX _) ?_
        rintro ⟨⟨i, oi⟩, hloop⟩
        replace hloop : i ≤ l.length ∧ MapF (Value.int .i64) jE (xc f D ((l.zip ats).take i)) oi := hloop
        obtain ⟨hi2, hDi⟩ := hloop
        show Tr _ _ _ ([(0, .pointer (some ⟨x, 0, none⟩)), (3, us), (7, ui), (8, ud), (11, up), (12, us2), (101, .int .i64 l.length), (102, .int .i64 i)]) (Ci :: Cd :: Cp2 :: Cs2 :: Ca2 :: StD x p lv md (nx + l.length) dn oi :: Cn' :: C' :: G :: F) _ _
        refine qO <| q9 (wJ rfl rfl) <| qF <| qN <| qM rfl (fun hc16 => ?_) (fun hc16 => ?_)
        ·
         refine qZ <| qJ <| qN <| qg <| qO <| qA rfl <| qE rfl <| qF <| qN <| qN ?_
         obtain ⟨k, hk⟩ : ∃ k, l[i]? = some k := ⟨_, List.getElem?_eq_getElem (by omega)⟩
         have ha := hatg i (by omega)
         rcases hsi with ⟨-, h0, -⟩ | ⟨bI, capI, spI, rfl, hcsI, rfl, hcapI, hncI⟩
         · omega
         rcases hsp2 with ⟨-, h0, -⟩ | ⟨bP, capP, spP, rfl, hcsP, rfl, hcapP, hncP⟩
         · omega
         rcases hss2 with ⟨-, h0, -⟩ | ⟨bS, capS, spS, rfl, hcsS, rfl, hcapS, hncS⟩
         · omega
         rcases hsa2 with ⟨-, h0, -⟩ | ⟨bA, capA, spA, rfl, hcsA, rfl, hcapA, hncA⟩
         · omega
         refine wT wB <| wD [(105, .pure _), (106, .pure _), (107, .pure _), (108, .pure _), (109, .pure _), (110, .pure _), (111, .pure _), (112, .pure _), (113, .pure _), (114, .pure _), (115, .pure _)] (by kernel_rfl) rfl rfl rfl wm (qC rfl (fun X => qP rfl) <| qC rfl (fun X => qP rfl) <| qC rfl (fun X => qx (j := i) (off := i * 132) rfl rfl rfl (by omega) (by simp)) <| qC rfl (fun X => wA rfl) <| qC rfl (fun X => QH (enc := fun k => kQ W.num W.ver k (f k)) (j := i) (k := 0) (q := WC W.num W.ver k) (fun _ => YF _ _ _ _) rfl (show (bI, Obj.cells (l.flatMap (fun k => kQ W.num W.ver k (f k)) ++ spI).toArray 109 (0, 0)) ∈ List.flatten _ by simp) hk rfl (by decide) rfl) <| qC rfl (fun X => qP rfl) <| qC rfl (fun X => qP rfl) <| qC rfl (fun X => qP rfl) <| qC rfl (fun X => qx (j := i) (off := i * 2) rfl rfl rfl (by omega) (by simp)) <| qC rfl (fun X => zC (j := i) y9 rfl hk rfl) <| qC rfl (fun X => wM rfl (zk (StD x p lv md (nx + l.length) dn oi) (JG x p md lv (nx + l.length) dn oi (zA W ats) C' hw' k))) <| ParH.nil rfl) ?_
         dsimp only [ze, List.drop, List.length]
         refine wE (by kernel_rfl) (Jw rfl rfl) ?_
         refine wE (by kernel_rfl) (qP rfl) ?_
         refine kK (s := 117) rfl (fun hg18_12 => ?_) (fun hg18_12 => ?_)
         · (rw [hcm.1, hcm.2.1] at hg18_12; exact absurd rfl hg18_12)
         ·
          refine wD [(118, .pure _), (119, .pure _), (120, .pure _), (121, .pure _), (122, .pure _), (123, .pure _), (124, .pure _), (125, .pure _), (126, .pure _)] (by kernel_rfl) rfl rfl rfl wm (wi rfl rfl rfl (fun X => qP rfl) <| wi rfl rfl rfl (fun X => qP rfl) <| wi rfl rfl rfl (fun X => qx (j := i) (off := i * 132) rfl rfl rfl (by omega) (by simp)) <| wi rfl rfl rfl (fun X => wA rfl) <| wi rfl rfl rfl (fun X => QH (enc := fun k => kQ W.num W.ver k (f k)) (j := i) (k := 4) (q := wt (f k)) (fun _ => YF _ _ _ _) rfl (show (bI, Obj.cells (l.flatMap (fun k => kQ W.num W.ver k (f k)) ++ spI).toArray 109 (0, 0)) ∈ List.flatten _ by simp) hk rfl (by decide) (xz _)) <| wi rfl rfl rfl (fun X => qP rfl) <| wi rfl rfl rfl (fun X => qP rfl) <| wi rfl rfl rfl (fun X => qx (j := i) (off := i * 128) rfl rfl rfl (by omega) (by simp)) <| wi rfl rfl rfl (fun X => zC (enc := fun k => wt (f k)) (j := i) (fun _ => by simp) rfl hk rfl) <| ParH.nil rfl) ?_
          dsimp only [ze, List.drop, List.length]
          refine kn (by kernel_rfl) rfl rfl (Jw rfl rfl) ?_
          refine wE (by kernel_rfl) (qU rfl rfl) ?_
          refine wI <| qJ <| qM rfl (fun hc18 => ?_) (fun hc18 => ?_)
          · exact absurd rfl hc18
          ·
           refine qZ <| qJ <| wT wB <| wD [(129, .pure _), (130, .pure _), (131, .pure _), (132, .pure _), (133, .pure _), (134, .pure _), (135, .pure _), (136, .pure _), (137, .pure _), (138, .pure _), (139, .pure _), (140, .pure _), (141, .pure _)] (by kernel_rfl) rfl rfl rfl wm (qC rfl (fun X => qP rfl) <| qC rfl (fun X => qQ rfl) <| qC rfl (fun X => qB rfl) <| qC rfl (fun X => qI rfl (J1 hw'.len)) <| qC rfl (fun X => qP rfl) <| qC rfl (fun X => qP rfl) <| qC rfl (fun X => qx (j := i) (off := i * 1) rfl rfl rfl (by omega) (by simp)) <| qC rfl (fun X => qI rfl (jl ha)) <| qC rfl (fun X => qP rfl) <| qC rfl (fun X => qP rfl) <| qC rfl (fun X => qx (j := i) (off := i * 132) rfl rfl rfl (by omega) (by simp)) <| qC rfl (fun X => wA rfl) <| qC rfl (fun X => QH (enc := fun k => kQ W.num W.ver k (f k)) (j := i) (k := 4) (q := wt (f k)) (fun _ => YF _ _ _ _) rfl (show (bI, Obj.cells (l.flatMap (fun k => kQ W.num W.ver k (f k)) ++ spI).toArray 109 (0, 0)) ∈ List.flatten _ by simp) hk rfl (by decide) (xz _)) <| ParH.nil rfl) ?_
           dsimp only [ze, List.drop, List.length]
           refine zi (by kernel_rfl) (zL (r := md) (q := nx + i) (v := f k) rfl rfl rfl hDi) ?_
           rintro _ _ ⟨od2, hD2, rfl⟩
           refine wI <| qe <| qJ <| qK <| q9 (w9 rfl rfl (by omega)) <| qA rfl <| qT <| w6 ⟨(i + 1, od2), ?_⟩ ?_ ?_
           · (try dsimp only); exact ⟨by omega, by rw [putDs_step hk ha]; exact hD2⟩
           · (try dsimp only); omega
           · (try dsimp only); exact qX _
        ·
         refine wa <| qr <| qt <| qh <| qJ <| qN <| qN ?_
         obtain rfl : i = l.length := by omega
         rw [List.take_of_length_le (by rw [List.length_zip]; omega)] at hDi
         refine qK <| qA rfl <| q9 (w8 (by rw [hvd]; rfl)) ?_
         refine qA rfl <| qF <| qg <| wS (Γ := {pΓ : (Nat) × (Obj) // (fun (j : Nat) (oj : Obj) => j ≤ (srt (xU n ats)).length ∧ MapF (Value.int .i64) jE (QO (xc f D (l.zip ats)) ((srt (xU n ats)).take j)) oj) pΓ.1 pΓ.2}) (fun g => (fun (j : Nat) (oj : Obj) => [(0, .pointer (some ⟨x, 0, none⟩)), (143, ud), (144, .int .i64 (srt (xU n ats)).length), (145, .int .i64 j)]) g.1.1 g.1.2) (fun g => (fun (j : Nat) (oj : Obj) => Cd :: StD x p lv md (nx + l.length) dn oj :: Cn' :: C' :: G :: F) g.1.1 g.1.2) (fun g => (fun (j : Nat) (oj : Obj) => (srt (xU n ats)).length - j) g.1.1 g.1.2) ⟨(0, oi), by dsimp only; exact ⟨by omega, hDi⟩⟩ (qX _) ?_
         rintro ⟨⟨j, oj⟩, hloop⟩
         replace hloop : j ≤ (srt (xU n ats)).length ∧ MapF (Value.int .i64) jE (QO (xc f D (l.zip ats)) ((srt (xU n ats)).take j)) oj := hloop
         obtain ⟨hj, hDj⟩ := hloop
         show Tr _ _ _ ([(0, .pointer (some ⟨x, 0, none⟩)), (143, ud), (144, .int .i64 (srt (xU n ats)).length), (145, .int .i64 j)]) (Cd :: StD x p lv md (nx + l.length) dn oj :: Cn' :: C' :: G :: F) _ _
         refine qO <| q9 (wJ rfl rfl) <| qF <| qN <| qM rfl (fun hc23 => ?_) (fun hc23 => ?_)
         ·
          refine qZ <| qJ <| qN <| qg <| qN ?_
          obtain ⟨g, hgj⟩ : ∃ g, (srt (xU n ats))[j]? = some g := ⟨_, List.getElem?_eq_getElem (by omega)⟩
          rcases hsd with ⟨-, h0, -⟩ | ⟨bD, capD, spD, rfl, hcsD, rfl, hcapD, hncD⟩
          · omega
          refine qK <| q9 (qx (j := j) (off := j * 1) rfl rfl rfl (by omega) (by simp)) ?_
          refine q9 (qI rfl (jl hgj)) <| qE rfl <| qF <| qK <| qA rfl <| q9 (qQ rfl) <| q9 (qB rfl) <| q9 (qI rfl (J1 hw'.len)) <| qA rfl <| y1 (xD (r := md) (q := g) rfl rfl hDj) ?_
          rintro _ _ ⟨od3, hD3, rfl⟩
          refine qT <| qe <| qJ <| qK <| q9 (w9 rfl rfl (by omega)) <| qA rfl <| qT <| w6 ⟨(j + 1, od3), ?_⟩ ?_ ?_
          · (try dsimp only); exact ⟨by omega, by rw [delDs_step hgj]; exact hD3⟩
          · (try dsimp only); omega
          · (try dsimp only); exact qX _
         ·
          refine wa <| qr <| qt <| qh <| qJ <| qN ?_
          obtain rfl : j = (srt (xU n ats)).length := by omega
          rw [List.take_length, hdead] at hDj
          refine qK <| qE rfl <| qF <| qy <| wC (StD x p lv md (nx + l.length) dn oj :: Cn' :: C' :: G :: F) (.inl rfl) rfl (qu rfl) ?_
          exact ⟨rfl, lv, C', Cn', oj, hn', hw', hDj, rfl⟩
theorem lload_ok (x p md : Nat) (v : List Value) (nx : Int) (dn : Bool) (hdn : dn = false) (od : Obj) (n n' : NS) (W : RS) (D : Int → Option Sec) (Cn C G : qV)
    (hn : NodeC p n Cn) (hw : RefC ba bl W v C) (hD : MapF (Value.int .i64) jE D od)
    (hld : zl W = [] → W.self.at_ ≠ 0 → ∀ (w0 : World) (F : Res), FnT Tryz.prog w0 68 #[.agg (wt ((D W.self.at_).getD Sec.zero)).toArray, .int .i64 W.self.at_, .func (.func 11) #[.pointer (some ⟨x, 0, none⟩)] #[]] (StD x p v md nx dn od :: G :: F)
      (fun v' L' => ∃ p' Cn', v' = .tuple #[.pointer (some ⟨p', 0, none⟩), .int .i64 0] ∧ NodeC p' n' Cn' ∧ L' = Cn' :: StD x p v md nx dn od :: G :: F)) :
    FnT Tryz.prog w0 31 #[.pointer (some ⟨x, 0, none⟩)] (StD x p v md nx dn od :: Cn :: C :: G :: F) (fun r L' => r = .bool true ∧ ∃ p' Cn', NodeC p' (if zl W = [] ∧ W.self.at_ ≠ 0 then n' else n) Cn' ∧
      L' = StD x p' v md nx dn od :: Cn' :: C :: G :: F) := by
  have hv := hw.len
  obtain ⟨l, hl⟩ : ∃ l, zl W = l := ⟨_, rfl⟩
  have hnil : l = [] ↔ ¬ (l.length : Int) > 0 := by cases l <;> simp
  refine qi (E0 := [(0, _)]) (N := 68) Tryz.func31 rfl rfl rfl rfl ?_
  refine qO <| qE rfl <| qF <| qN <| qO <| qA rfl <| q9 (qQ rfl) <| q9 (qB rfl) <| q9 (zp (r := v) rfl (jU hv) hv) <| qG (w5 rfl (we (C) (QF W v C hw))) ?_
  rintro t9 _ ⟨Cp, hsp, rfl⟩
  rw [hl] at hsp
  obtain ⟨pp, cp, rfl⟩ := hsp.slice
  refine q9 (w8 rfl) <| q9 (y8 rfl rfl) <| qA rfl <| qY (s := 12) rfl (fun hg1_7 => ?_) (fun hg1_7 => ?_)
  ·
   refine qL rfl rfl rfl <| qL rfl rfl rfl <| qL rfl rfl rfl <| qL rfl rfl rfl <| qL rfl rfl rfl <| qL rfl rfl rfl <| qL rfl rfl rfl <| q9 (qq rfl rfl) <| qF <| zM rfl <| qO <| qE rfl <| qF <| qy <| qv <| wC (StD x p v md nx dn od :: Cn :: C :: G :: F) (.inl rfl) rfl (qu rfl) <| ⟨rfl, p, Cn, ?_, rfl⟩
   rw [if_neg]
   · exact hn
   · rw [hl, hnil]; rintro ⟨h1, h2⟩; first | omega | exact h2 hc1
  ·
   refine qD rfl rfl (qP rfl) <| qD rfl rfl (qQ rfl) <| qD rfl rfl (qB rfl) <| qD rfl rfl (wA rfl) <| qD rfl rfl (wA rfl) <| qD rfl rfl (qI rfl ((K3 hv (by decide)).trans (ZG hw))) <| qD rfl rfl (wn rfl rfl) <| q9 (qU rfl rfl) <| qF <| qM rfl (fun hc1 => ?_) (fun hc1 => ?_)
   ·
    refine qO <| qE rfl <| qF <| qy <| qv <| wC (StD x p v md nx dn od :: Cn :: C :: G :: F) (.inl rfl) rfl (qu rfl) <| ⟨rfl, p, Cn, ?_, rfl⟩
    rw [if_neg]
    · exact hn
    · rw [hl, hnil]; rintro ⟨h1, h2⟩; first | omega | exact h2 hc1
   ·
    refine qZ <| qJ <| qN ?_
    have hp0 : zl W = [] := by rw [hl]; exact hnil.2 (by omega)
    refine wT wB <| wD [(22, .pure _), (23, .pure _), (24, .pure _), (25, .pure _), (26, .pure _), (27, .pure _), (28, .pure _), (29, .pure _), (30, .pure _), (31, .pure _), (32, .pure _), (33, .pure _), (34, .pure _), (35, .pure _), (36, .pure _), (37, .pure _), (38, .pure _), (39, .pure _), (40, .pure _)] (by kernel_rfl) rfl rfl rfl wm (qC rfl (fun X => qP rfl) <| qC rfl (fun X => qQ rfl) <| qC rfl (fun X => qB rfl) <| qC rfl (fun X => qI rfl (J1 hv)) <| qC rfl (fun X => qP rfl) <| qC rfl (fun X => qQ rfl) <| qC rfl (fun X => qB rfl) <| qC rfl (fun X => wA rfl) <| qC rfl (fun X => wA rfl) <| qC rfl (fun X => qI rfl ((K3 hv (by decide)).trans (ZG hw))) <| qC rfl (fun X => yP (z := Sec.zero) (q := W.self.at_) rfl rfl hD) <| qC rfl (fun X => qP rfl) <| qC rfl (fun X => qQ rfl) <| qC rfl (fun X => qB rfl) <| qC rfl (fun X => wA rfl) <| qC rfl (fun X => wA rfl) <| qC rfl (fun X => qI rfl ((K3 hv (by decide)).trans (ZG hw))) <| qC rfl (fun X => qP rfl) <| qC rfl (fun X => z6 rfl rfl) <| ParH.nil rfl) ?_
    dsimp only [ze, List.drop, List.length]
    refine z8 (by kernel_rfl) (w5 rfl (kG (StD x p v md nx dn od) (G) (hld hp0 hc1 w0 _))) ?_
    rintro t41 _ ⟨p', Cn', rfl, hn', rfl⟩
    refine wE (by kernel_rfl) (qP rfl) ?_
    refine wD [(42, .pure _), (43, .pure _), (3, .pure _)] (by kernel_rfl) rfl rfl rfl wm (qC rfl (fun X => qf rfl rfl) <| qC rfl (fun X => qf rfl rfl) <| qC rfl (fun X => zS rfl) <| ParH.nil rfl) ?_
    dsimp only [ze, List.drop, List.length]
    refine wE (by kernel_rfl) (zS rfl) ?_
    refine wI <| qJ <| qN <| qO <| qA rfl <| q9 (qQ rfl) <| q9 (qB rfl) <| q9 (qI rfl (M3 hv)) <| qA rfl <| zy (s := 48) rfl (fun hg4_4 => ?_) (fun hg4_4 => ?_)
    · (rw [hdn] at hg4_4; cases hg4_4)
    ·
     refine qL rfl rfl rfl <| qL rfl rfl rfl <| q9 (qU rfl rfl) <| qA rfl <| qL rfl rfl rfl <| qL rfl rfl rfl <| q9 (qU rfl rfl) <| qF <| wV rfl <| qZ <| qJ <| qN <| qO <| qA rfl <| q9 (zE rfl rfl) <| qF <| qM rfl (fun hc6 => ?_) (fun hc6 => ?_)
     · exact absurd rfl hc6
     ·
      refine qZ <| qJ <| qO <| qA rfl <| qA rfl <| q9 (qQ rfl) <| q9 (qB rfl) <| qR (yM rfl rfl (by rw [jw hv]; decide) rfl) ?_
      refine qT ?_
      rw [stV_sp]
      refine qJ <| qO <| qE rfl <| qF <| qy <| wC (StD x p' v md nx dn od :: Cn' :: C :: G :: F) (.inl rfl) rfl (qu rfl) <| ⟨rfl, p', Cn', ?_, rfl⟩
      rw [if_pos ⟨hp0, hc1⟩]; exact hn'
def InB (i : Int) : Prop := 0 ≤ i ∧ i < 1064
theorem WJ {i k : Int} : ww i = (5, k) ↔ (wG i).1 = 2 ∧ (wG i).2.1 = k := by
  unfold ww
  by_cases h1 : (wG i).1 = 1
  · rw [if_pos h1]; constructor
    · intro h; cases h
    · intro h; omega
  · rw [if_neg h1]
    by_cases h2 : (wG i).1 = 2
    · rw [if_pos h2]; constructor
      · intro h; exact ⟨h2, (Prod.mk.inj h).2⟩
      · rintro ⟨-, rfl⟩; rfl
    · rw [if_neg h2]; constructor
      · intro h; cases h
      · intro h; exact absurd h.1 h2
theorem Wl {i : Int} : ww i = (3, 0) ↔ (wG i).1 = 1 := by
  unfold ww
  by_cases h1 : (wG i).1 = 1
  · rw [if_pos h1]; simp [h1]
  · rw [if_neg h1]
    split
    · constructor
      · intro h; cases h
      · intro h; exact absurd h h1
    · constructor
      · intro h; cases h
      · intro h; exact absurd h h1
theorem X9 {i : Int} : (ww i).1 = 5 ↔ (wG i).1 = 2 := by
  unfold ww
  by_cases h1 : (wG i).1 = 1
  · rw [if_pos h1]; constructor
    · intro h; exact absurd h (by decide)
    · intro h; omega
  · rw [if_neg h1]
    by_cases h2 : (wG i).1 = 2
    · rw [if_pos h2]; simp [h2]
    · rw [if_neg h2]; constructor
      · intro h; exact absurd h (by decide)
      · intro h; exact absurd h h2
theorem xt (i : Int) : ww i ≠ (4, 0) := by
  unfold ww; split
  · decide
  · split
    · intro h; cases h
    · decide
theorem Jd (i : Int) : (ww i).1 ≠ 1 := by
  unfold ww; split
  · decide
  · split <;> simp
def zD (W : RS) (k : Int × Int) : Bool := if k.1 = 5 then (W.leaves k.2).stale else if k.1 = 3 then W.sg.stale else if k.1 = 4 then W.db.stale else W.self.stale
def jQ (W : RS) (k : Int × Int) : Prop := ∃ i, InB i ∧ (W.all i).has = true ∧ ((k = (4, 0) ∧ (ww i).1 = 5) ∨ ww i = k)
def frB (W : RS) (k : Int × Int) : Prop := ∃ i, InB i ∧ (W.all i).fresh = true ∧ ww i = k
def chB (W : RS) (k : Int × Int) : Prop := zD W k = true ∨ frB W k
def chL (W : RS) : Prop := ∃ j, 0 ≤ j ∧ j < 32 ∧ chB W (5, j)
def prR (W : RS) (k : Int × Int) : Prop :=
  if k.1 = 1 then (W.all k.2).fresh = true
  else if k.1 = 5 then chB W k ∧ jQ W k
  else if k.1 = 3 then chB W k ∧ jQ W k
  else if k.1 = 4 then (zD W k = true ∨ chL W) ∧ jQ W k
  else (∃ i, InB i ∧ (W.all i).fresh = true) ∨ zD W (2, 0) = true ∨ zD W (3, 0) = true ∨ zD W (4, 0) = true ∨ chL W
theorem yG {n : Nat} {j : Int} : j ∈ zu n ↔ 0 ≤ j ∧ j < n := by
  unfold zu; rw [List.mem_map]
  constructor
  · rintro ⟨a, ha, rfl⟩; have := List.mem_range.1 ha; omega
  · intro h; exact ⟨j.toNat, List.mem_range.2 (by omega), by omega⟩
theorem Qf (n : Nat) : (zu n).take n = zu n := List.take_of_length_le (by rw [xE]; exact Nat.le_refl _)
theorem YD (W : RS) (k : Int) (hk : 0 ≤ k) : yE W 2 k = true ↔ jQ W (5, k) := by
  unfold yE jQ
  rw [List.any_eq_true]
  constructor
  · rintro ⟨i, hi, h⟩
    unfold ZL at h
    simp only [Bool.and_eq_true, decide_eq_true_eq, Bool.or_eq_true] at h
    exact ⟨i, yG.1 hi, h.1, .inr (WJ.2 ⟨h.2.1, by omega⟩)⟩
  · rintro ⟨i, hi, h1, h2 | h2⟩
    · cases h2.1
    · have := WJ.1 h2
      exact ⟨i, yG.2 hi, by unfold ZL; simp [h1, this.1, this.2]⟩
theorem Jy (W : RS) : yE W 1 0 = true ↔ jQ W (3, 0) := by
  unfold yE jQ
  rw [List.any_eq_true]
  constructor
  · rintro ⟨i, hi, h⟩
    unfold ZL at h
    simp only [Bool.and_eq_true, decide_eq_true_eq, Bool.or_eq_true] at h
    exact ⟨i, yG.1 hi, h.1, .inr (Wl.2 h.2.1)⟩
  · rintro ⟨i, hi, h1, h2 | h2⟩
    · cases h2.1
    · have h3 := Wl.1 h2
      refine ⟨i, yG.2 hi, ?_⟩
      unfold ZL; rw [h1, decide_eq_true h3]
      have : (wG i).2.1 = 0 := by
        unfold wG at h3 ⊢
        repeat' split
        all_goals first | rfl | simp_all
      simp [this]
theorem Jz (W : RS) : yE W 2 (-1) = true ↔ jQ W (4, 0) := by
  unfold yE jQ
  rw [List.any_eq_true]
  constructor
  · rintro ⟨i, hi, h⟩
    unfold ZL at h
    simp only [Bool.and_eq_true, decide_eq_true_eq, Bool.or_eq_true] at h
    exact ⟨i, yG.1 hi, h.1, .inl ⟨rfl, X9.2 h.2.1⟩⟩
  · rintro ⟨i, hi, h1, h2 | h2⟩
    · exact ⟨i, yG.2 hi, by unfold ZL; simp [h1, X9.1 h2.2]⟩
    · exact absurd h2 (xt i)
theorem YC (W : RS) (k : Int) : Qi W k = true ↔ chB W (5, k) := by
  unfold Qi jV chB frB zD jB
  rw [Qf, Bool.or_eq_true, List.any_eq_true]
  refine or_congr (by simp) ⟨?_, ?_⟩
  · rintro ⟨i, hi, h⟩
    simp only [Bool.and_eq_true, decide_eq_true_eq] at h
    exact ⟨i, yG.1 hi, h.1.1, WJ.2 ⟨h.1.2, h.2⟩⟩
  · rintro ⟨i, hi, h1, h2⟩
    have := WJ.1 h2
    exact ⟨i, yG.2 hi, by simp [h1, this.1, this.2]⟩
theorem sgS_iff (W : RS) : sgS W 1064 = true ↔ chB W (3, 0) := by
  unfold sgS chB frB zD jB
  rw [Qf, Bool.or_eq_true, List.any_eq_true]
  refine or_congr (by simp) ⟨?_, ?_⟩
  · rintro ⟨i, hi, h⟩
    simp only [Bool.and_eq_true, decide_eq_true_eq] at h
    exact ⟨i, yG.1 hi, h.1, Wl.2 h.2⟩
  · rintro ⟨i, hi, h1, h2⟩
    exact ⟨i, yG.2 hi, by simp [h1, Wl.1 h2]⟩
theorem Xv (W : RS) : ((zu 32).take 32).any (Qi W) = true ↔ chL W := by
  rw [Qf, List.any_eq_true]
  constructor
  · rintro ⟨j, hj, h⟩; exact ⟨j, (yG.1 hj).1, (yG.1 hj).2, (YC W j).1 h⟩
  · rintro ⟨j, h0, h1, h⟩; exact ⟨j, yG.2 ⟨h0, h1⟩, (YC W j).2 h⟩
theorem dbS_iff (W : RS) : dbS W 32 = true ↔ (zD W (4, 0) = true ∨ chL W) := by
  unfold dbS; rw [Bool.or_eq_true, Xv]; exact Iff.rfl
theorem Xu (W : RS) : WS W 32 = true ↔ prR W (2, 0) := by
  unfold WS Vg prR
  rw [if_neg (by decide), if_neg (by decide), if_neg (by decide), if_neg (by decide), Bool.or_eq_true, Xv, Bool.or_eq_true, Bool.or_eq_true, Bool.or_eq_true]
  have h : (!(yQ W 1064).isEmpty) = true ↔ ∃ i, InB i ∧ (W.all i).fresh = true := by
    unfold yQ; rw [Qf]
    rw [Bool.not_eq_true', ← Bool.not_eq_true, List.isEmpty_iff, List.map_eq_nil_iff, List.filter_eq_nil_iff]
    constructor
    · intro h
      refine Classical.byContradiction fun hn => h fun i hi hf => hn ⟨i, yG.1 hi, hf⟩
    · rintro ⟨i, hi, hf⟩ h; exact h i (yG.2 hi) hf
  rw [h]
  unfold zD
  simp only [show ((2 : Int), (0 : Int)).1 = 2 from rfl, show ((3 : Int), (0 : Int)).1 = 3 from rfl, show ((4 : Int), (0 : Int)).1 = 4 from rfl]
  constructor
  · rintro ((h | h | h | h) | h)
    · exact .inl h
    · exact .inr (.inl h)
    · exact .inr (.inr (.inl h))
    · exact .inr (.inr (.inr (.inl h)))
    · exact .inr (.inr (.inr (.inr h)))
  · rintro (h | h | h | h | h)
    · exact .inl (.inl h)
    · exact .inl (.inr (.inl h))
    · exact .inl (.inr (.inr (.inl h)))
    · exact .inl (.inr (.inr (.inr h)))
    · exact .inr h
open Classical in
theorem ZY (W : RS) : zl W = allParts.filter (fun k => decide (prR W k)) := by
  unfold zl allParts
  rw [List.filter_append, List.filter_append, show (List.range 1064).map (fun i : Nat => ((1 : Int), (i : Int))) = (zu 1064).map (fun j => ((1 : Int), j)) from by unfold zu; rw [List.map_map]; rfl,
    show (List.range 32).map (fun i : Nat => ((5 : Int), (i : Int))) = (zu 32).map (fun j => ((5 : Int), j)) from by unfold zu; rw [List.map_map]; rfl, List.filter_map, List.filter_map, List.append_assoc, List.append_assoc, List.append_assoc]
  congr 1
  · unfold yQ; rw [Qf]; congr 1
    refine List.filter_congr fun i hi => ?_
    simp [prR]
  congr 1
  · unfold kg; rw [Qf]; congr 1
    refine List.filter_congr fun i hi => ?_
    rw [Bool.eq_iff_iff, Bool.and_eq_true, YC, YD W i (yG.1 hi).1]
    simp [prR]
  · have h3 : sgP W = if prR W (3, 0) then [(3, 0)] else [] := by
      unfold sgP
      have : (sgS W 1064 && yE W 1 0) = true ↔ prR W (3, 0) := by rw [Bool.and_eq_true, sgS_iff, Jy]; simp [prR]
      by_cases h : prR W (3, 0)
      · rw [if_pos (this.2 h), if_pos h]
      · rw [if_neg (fun e => h (this.1 e)), if_neg h]
    have h4 : dbP W = if prR W (4, 0) then [(4, 0)] else [] := by
      unfold dbP
      have : (dbS W 32 && yE W 2 (-1)) = true ↔ prR W (4, 0) := by rw [Bool.and_eq_true, dbS_iff, Jz]; simp [prR]
      by_cases h : prR W (4, 0)
      · rw [if_pos (this.2 h), if_pos h]
      · rw [if_neg (fun e => h (this.1 e)), if_neg h]
    have h2 : YS W = if prR W (2, 0) then [(2, 0)] else [] := by
      unfold YS
      by_cases h : prR W (2, 0)
      · rw [if_pos ((Xu W).2 h), if_pos h]
      · rw [if_neg (fun e => h ((Xu W).1 e)), if_neg h]
    rw [h3, h4, h2]
    simp only [List.filter_cons, List.filter_nil, decide_eq_true_eq]
    split <;> split <;> split <;> rfl
open Classical in
theorem Q0 (W : RS) (k : Int × Int) : k ∈ zl W ↔ qw k ∧ prR W k := by
  rw [ZY, List.mem_filter, zn, decide_eq_true_eq]
structure Cpl (n : NS) (W : RS) : Prop where
  num : n.num = W.num
  ver : n.ver = W.ver
  kind : n.kind = W.kind
  size : n.size = W.size
  time : n.time = W.time
  at_ : ∀ k, qw k → (n.at_ k).getD 0 = qn W k
  data : ∀ i, InB i → n.data i = if (W.all i).fresh then some (W.all i).s else none
  stale : ∀ k, qw k → k.1 ≠ 1 → (n.stale k ≠ none ↔ zD W k = true)
  stale1 : ∀ i, n.stale (1, i) = none
  gone : n.gone.Perm W.gone
  ok : NOk n
theorem y3 {i : Int} (h : InB i) : qw (1, i) := .inl ⟨rfl, h.1, h.2⟩
theorem zz {j : Int} (h : 0 ≤ j ∧ j < 32) : qw (5, j) := .inr (.inr (.inr (.inr ⟨rfl, h.1, h.2⟩)))
theorem y2 : qw (2, 0) := .inr (.inl rfl)
theorem zT : qw (3, 0) := .inr (.inr (.inl rfl))
theorem zX : qw (4, 0) := .inr (.inr (.inr (.inl rfl)))
theorem wL {k : Int × Int} (h : qw k) : (∃ i, InB i ∧ k = (1, i)) ∨ k = (2, 0) ∨ k = (3, 0) ∨ k = (4, 0) ∨ ∃ j, (0 ≤ j ∧ j < 32) ∧ k = (5, j) := by
  rcases h with ⟨h1, h2, h3⟩ | h | h | h | ⟨h1, h2, h3⟩
  · exact .inl ⟨k.2, ⟨h2, h3⟩, Prod.ext h1 rfl⟩
  · exact .inr (.inl h)
  · exact .inr (.inr (.inl h))
  · exact .inr (.inr (.inr (.inl h)))
  · exact .inr (.inr (.inr (.inr ⟨k.2, ⟨h2, h3⟩, Prod.ext h1 rfl⟩)))
theorem Qh {W : RS} {i : Int} : i ∈ YG W ↔ InB i ∧ (W.all i).has = true := by
  unfold YG; rw [List.mem_filter]; exact and_congr_left' yG
section
variable {n : NS} {W : RS} (h : Cpl n W)
include h
theorem Cpl.dat {i : Int} : n.data i ≠ none ↔ InB i ∧ (W.all i).fresh = true := by
  constructor
  · intro hd
    have hi := h.ok.data i hd
    refine ⟨hi, ?_⟩
    rw [h.data i hi] at hd
    by_cases hf : (W.all i).fresh = true
    · exact hf
    · rw [if_neg hf] at hd; exact absurd rfl hd
  · rintro ⟨hi, hf⟩
    rw [h.data i hi, if_pos hf]; simp
theorem Cpl.hasN_iff (hh : ∀ i, InB i → ((W.all i).has = true ↔ ((W.all i).fresh = true ∨ (W.all i).at_ ≠ 0))) {i : Int} (hi : InB i) : x8 n i ↔ (W.all i).has = true := by
  unfold x8
  rw [hh i hi, h.at_ _ (y3 hi), yJ, h.data i hi]
  by_cases hf : (W.all i).fresh = true
  · simp [hf]
  · simp [hf]
theorem Cpl.idx (hh : ∀ i, InB i → ((W.all i).has = true ↔ ((W.all i).fresh = true ∨ (W.all i).at_ ≠ 0))) : jd n = YG W := by
  unfold jd YG
  refine List.filter_congr fun i hi => ?_
  rw [Bool.eq_iff_iff, decide_eq_true_eq]
  exact h.hasN_iff hh (yG.1 hi)
theorem Cpl.kids (hh : ∀ i, InB i → ((W.all i).has = true ↔ ((W.all i).fresh = true ∨ (W.all i).at_ ≠ 0))) (k : Int × Int) : WR n k = true ↔ jQ W k := by
  unfold WR jQ
  rw [h.idx hh]
  by_cases e : k = (4, 0)
  · rw [if_pos e, List.any_eq_true]
    constructor
    · rintro ⟨i, hi, h5⟩
      have := Qh.1 hi
      exact ⟨i, this.1, this.2, .inl ⟨e, by simpa using h5⟩⟩
    · rintro ⟨i, hi, h1, h2 | h2⟩
      · exact ⟨i, Qh.2 ⟨hi, h1⟩, by simpa using h2.2⟩
      · exact absurd (h2.trans e) (xt i)
  · rw [if_neg e, List.any_eq_true]
    constructor
    · rintro ⟨i, hi, h5⟩
      have := Qh.1 hi
      exact ⟨i, this.1, this.2, .inr (by simpa using h5)⟩
    · rintro ⟨i, hi, h1, h2 | h2⟩
      · exact absurd h2.1 e
      · exact ⟨i, Qh.2 ⟨hi, h1⟩, by simpa using h2⟩
theorem Cpl.base1 {i : Int} : QQ n (1, i) ↔ InB i ∧ (W.all i).fresh = true := by
  unfold QQ
  rw [h.stale1]
  constructor
  · rintro (h1 | ⟨j, hj, h1 | h1⟩)
    · exact absurd rfl h1
    · obtain rfl : i = j := (Prod.mk.inj h1).2
      exact h.dat.1 hj
    · exact absurd (by rw [← h1]) (Jd j)
  · intro h1; exact .inr ⟨i, h.dat.2 h1, .inl rfl⟩
theorem Cpl.base {k : Int × Int} (hk : qw k) (h1 : k.1 ≠ 1) : QQ n k ↔ chB W k := by
  unfold QQ chB frB
  rw [h.stale k hk h1]
  refine or_congr Iff.rfl ⟨?_, ?_⟩
  · rintro ⟨i, hi, e | e⟩
    · exact absurd (by rw [e]) h1
    · have := h.dat.1 hi; exact ⟨i, this.1, this.2, e.symm⟩
  · rintro ⟨i, hi, hf, e⟩; exact ⟨i, h.dat.2 ⟨hi, hf⟩, .inr e.symm⟩
theorem Cpl.base5 : (∃ q, QQ n q ∧ q.1 = 5) ↔ chL W := by
  constructor
  · rintro ⟨q, hq, h5⟩
    have hk := Kl h.ok hq
    have := (h.base hk (by omega)).1 hq
    rcases wL hk with ⟨i, _, rfl⟩ | rfl | rfl | rfl | ⟨j, hj, rfl⟩
    · exact absurd h5 (by simp)
    · exact absurd h5 (by decide)
    · exact absurd h5 (by decide)
    · exact absurd h5 (by decide)
    · exact ⟨j, hj.1, hj.2, this⟩
  · rintro ⟨j, h0, h1, hc⟩
    exact ⟨(5, j), (h.base (zz ⟨h0, h1⟩) (by simp)).2 hc, rfl⟩
theorem Cpl.frFour : ¬ frB W (4, 0) := fun ⟨i, _, _, e⟩ => xt i e
theorem Cpl.all_iff {k : Int × Int} (hk : qw k) : ZQ n k ∧ (k.1 ≠ 1 → k.1 ≠ 2 → jQ W k) ↔ prR W k := by
  have e24 : ((2 : Int), (0 : Int)) ≠ (4, 0) := by decide
  rcases wL hk with ⟨i, hi, rfl⟩ | rfl | rfl | rfl | ⟨j, hj, rfl⟩
  · unfold prR ZQ Ky
    rw [if_pos rfl, h.base1]
    constructor
    · rintro ⟨(h1 | ⟨h1, -⟩) | ⟨h1, -⟩, -⟩
      · exact h1.2
      · cases h1
      · cases h1
    · intro hf; exact ⟨.inl (.inl ⟨hi, hf⟩), fun e => absurd rfl e⟩
  · unfold prR ZQ Ky
    rw [if_neg (by decide), if_neg (by decide), if_neg (by decide), if_neg (by decide), h.base y2 (by decide)]
    have key : (∃ q, QQ n q ∨ q = ((4 : Int), (0 : Int)) ∧ ∃ q, QQ n q ∧ q.1 = 5) ↔ (∃ i, InB i ∧ (W.all i).fresh = true) ∨ zD W (2, 0) = true ∨ zD W (3, 0) = true ∨ zD W (4, 0) = true ∨ chL W := by
      constructor
      · rintro ⟨q, hq | ⟨-, hq⟩⟩
        · have hqk := Kl h.ok hq
          by_cases h1 : q.1 = 1
          · rcases wL hqk with ⟨i, hi, rfl⟩ | rfl | rfl | rfl | ⟨j, hj, rfl⟩
            · exact .inl ⟨i, h.base1.1 hq⟩
            all_goals exact absurd h1 (by simp)
          · rcases (h.base hqk h1).1 hq with hs | ⟨i, hi, hf, -⟩
            · rcases wL hqk with ⟨i, hi, rfl⟩ | rfl | rfl | rfl | ⟨j, hj, rfl⟩
              · exact absurd rfl h1
              · exact .inr (.inl hs)
              · exact .inr (.inr (.inl hs))
              · exact .inr (.inr (.inr (.inl hs)))
              · exact .inr (.inr (.inr (.inr ⟨j, hj.1, hj.2, .inl hs⟩)))
            · exact .inl ⟨i, hi, hf⟩
        · exact .inr (.inr (.inr (.inr (h.base5.1 hq))))
      · rintro (⟨i, hi, hf⟩ | hs | hs | hs | hc)
        · exact ⟨(1, i), .inl (h.base1.2 ⟨hi, hf⟩)⟩
        · exact ⟨(2, 0), .inl ((h.base y2 (by decide)).2 (.inl hs))⟩
        · exact ⟨(3, 0), .inl ((h.base zT (by decide)).2 (.inl hs))⟩
        · exact ⟨(4, 0), .inl ((h.base zX (by decide)).2 (.inl hs))⟩
        · obtain ⟨q, hq, -⟩ := h.base5.2 hc
          exact ⟨q, .inl hq⟩
    constructor
    · rintro ⟨(h1 | ⟨h1, -⟩) | ⟨-, h1⟩, -⟩
      · rcases h1 with h1 | ⟨i, hi, hf, -⟩
        · exact .inr (.inl h1)
        · exact .inl ⟨i, hi, hf⟩
      · cases h1
      · exact key.1 h1
    · intro h1; exact ⟨.inr ⟨rfl, key.2 h1⟩, fun _ e => absurd rfl e⟩
  · unfold prR ZQ Ky
    rw [if_neg (by decide), if_neg (by decide), if_pos rfl, h.base zT (by decide)]
    constructor
    · rintro ⟨(h1 | ⟨h1, -⟩) | ⟨h1, -⟩, h2⟩
      · exact ⟨h1, h2 (by decide) (by decide)⟩
      · cases h1
      · cases h1
    · rintro ⟨h1, h2⟩; exact ⟨.inl (.inl h1), fun _ _ => h2⟩
  · unfold prR ZQ Ky
    rw [if_neg (by decide), if_neg (by decide), if_neg (by decide), if_pos rfl, h.base zX (by decide), h.base5]
    constructor
    · rintro ⟨(h1 | ⟨-, h1⟩) | ⟨h1, -⟩, h2⟩
      · rcases h1 with h1 | h1
        · exact ⟨.inl h1, h2 (by decide) (by decide)⟩
        · exact absurd h1 h.frFour
      · exact ⟨.inr h1, h2 (by decide) (by decide)⟩
      · cases h1
    · rintro ⟨h1 | h1, h2⟩
      · exact ⟨.inl (.inl (.inl h1)), fun _ _ => h2⟩
      · exact ⟨.inl (.inr ⟨rfl, h1⟩), fun _ _ => h2⟩
  · unfold prR ZQ Ky
    rw [if_neg (show ¬ ((5 : Int), j).1 = 1 by simp), if_pos rfl, h.base (zz hj) (by simp)]
    constructor
    · rintro ⟨(h1 | ⟨h1, -⟩) | ⟨h1, -⟩, h2⟩
      · exact ⟨h1, h2 (by simp) (by simp)⟩
      · cases h1
      · cases h1
    · rintro ⟨h1, h2⟩; exact ⟨.inl (.inl h1), fun _ _ => h2⟩
open Classical in
theorem Cpl.parts (hh : ∀ i, InB i → ((W.all i).has = true ↔ ((W.all i).fresh = true ∨ (W.all i).at_ ≠ 0))) : yO n = zl W := by
  rw [ZY]
  unfold yO
  refine List.filter_congr fun k hk => ?_
  have hk := (zn k).1 hk
  rw [decide_eq_decide, ← h.all_iff hk]
  refine and_congr_right fun _ => ?_
  unfold XN
  rw [h.kids hh]
  constructor
  · rintro (e | e | e) h1 h2
    · exact absurd e h1
    · exact absurd e h2
    · exact e
  · intro e
    by_cases h1 : k.1 = 1
    · exact .inl h1
    · by_cases h2 : k.1 = 2
      · exact .inr (.inl h2)
      · exact .inr (.inr (e h1 h2))
end
structure Inv (W : RS) (D : Int → Option Sec) (nx : Int) : Prop where
  has : ∀ i, InB i → ((W.all i).has = true ↔ ((W.all i).fresh = true ∨ (W.all i).at_ ≠ 0))
  hole : ∀ i, InB i → (W.all i).has = false → (W.all i).s = Sec.zero
  kid : ∀ k, qw k → k.1 ≠ 1 → k.1 ≠ 2 → (qn W k ≠ 0 ∨ zD W k = true) → jQ W k
  place : ∀ k, qw k → k.1 ≠ 1 → (k.1 ≠ 2 → jQ W k) → qn W k ≠ 0 ∨ prR W k
  rngA : ∀ k, qw k → qn W k ≠ 0 → 1 ≤ qn W k ∧ qn W k < nx
  rngG : ∀ a ∈ W.gone, 1 ≤ a ∧ a < nx
  inj : ∀ k q, qw k → qw q → qn W k ≠ 0 → qn W k = qn W q → k = q
  gnd : W.gone.Nodup
  gdj : ∀ a ∈ W.gone, ∀ k, qw k → qn W k ≠ a
  disk : ∀ k, qw k → qn W k ≠ 0 → ¬ prR W k → D (qn W k) = some (wx W k)
  keys : ∀ a, D a ≠ none ↔ (a ∈ W.gone ∨ ∃ k, qw k ∧ qn W k = a ∧ a ≠ 0)
  gone : W.gone ≠ [] → W.self.stale = true
  zero : ∀ i, InB i → ∀ j : Nat, j < 128 → W.size ≤ 128 * i + j → (W.all i).s.l.getD j 0 = 0
  num : W.num = 3
  ver : W.ver = 7
  kind : 1 ≤ W.kind ∧ W.kind ≤ 2
  size : 0 ≤ W.size ∧ W.size ≤ 136192
  time : 0 ≤ W.time ∧ W.time < 4294967296
  nx : 1 ≤ nx
theorem ko {W : RS} {i : Int} : prR W (1, i) ↔ (W.all i).fresh = true := by unfold prR; rw [if_pos rfl]
theorem yc {W : RS} {i : Int} : wx W (1, i) = (W.all i).s := by unfold wx; rw [if_pos rfl]
theorem X5 {n : NS} {W : RS} {D : Int → Option Sec} {nx : Int} (h : Cpl n W) (hI : Inv W D nx) {i : Int} (hi : InB i) : blk n D i = some (W.all i).s := by
  by_cases hf : (W.all i).fresh = true
  · exact Xp (by rw [h.data i hi, if_pos hf])
  · have hd : n.data i = none := by rw [h.data i hi, if_neg hf]
    have ha : (n.at_ (1, i)).getD 0 = (W.all i).at_ := by rw [h.at_ _ (y3 hi), yJ]
    by_cases h0 : (W.all i).at_ = 0
    · rw [Xr hd (by rw [ha]; simpa using h0)]
      have : (W.all i).has = false := by
        cases e : (W.all i).has with
        | false => rfl
        | true => rcases (hI.has i hi).1 e with h1 | h1
                  · exact absurd h1 hf
                  · exact absurd h0 h1
      rw [hI.hole i hi this]
    · rw [Xq hd (by rw [ha]; exact h0), ha]
      have := hI.disk (1, i) (y3 hi) (by rw [yJ]; exact h0) (by rw [ko]; exact hf)
      rw [yJ, yc] at this
      exact this
def Wh (A : Int → Blk) (z : Int) : Int := (A (z / 128)).s.l.getD (z % 128).toNat 0
theorem byteR_A (W : RS) (z : Int) : Kh W z = Wh W.all z := rfl
def M0 (A : Int → Blk) (l : List (Int × Int × Int)) : List Int := l.flatMap fun q => ((A q.1).s.l.drop q.2.1.toNat).take (q.2.2 - q.2.1).toNat
theorem slice_bytes (A : Int → Blk) {a m : Int} (h0 : 0 ≤ a) (hm : 0 ≤ m) (hr : a % 128 + m ≤ 128) :
    ((A (a / 128)).s.l.drop (a % 128).toNat).take m.toNat = (List.range m.toNat).map fun j : Nat => Wh A (a + j) := by
  have hl := (A (a / 128)).s.len
  apply List.ext_getElem?
  intro j
  by_cases hj : j < m.toNat
  · have e1 : (a + j) / 128 = a / 128 := by omega
    have e2 : ((a + j) % 128).toNat = (a % 128).toNat + j := by omega
    rw [List.getElem?_take_of_lt hj, List.getElem?_drop, List.getElem?_map, List.getElem?_range hj]
    simp only [Option.map_some, Wh, e1, e2, List.getD_eq_getElem?_getD]
    rw [List.getElem?_eq_getElem (by omega)]; rfl
  · rw [List.getElem?_eq_none (by simp; omega), List.getElem?_eq_none (by simp; omega)]
theorem range_split (m n : Nat) (f : Nat → Int) : (List.range (m + n)).map f = (List.range m).map f ++ (List.range n).map (fun j => f (m + j)) := by
  rw [List.range_add, List.map_append, List.map_map]; rfl
theorem catS_cut (A : Int → Blk) : ∀ (k : Nat) (a e : Int), 0 ≤ a → (e - a).toNat ≤ k → M0 A (ke k a e) = (List.range (e - a).toNat).map fun j : Nat => Wh A (a + j) := by
  intro k
  induction k with
  | zero => intro a e h0 hk; rw [show (e - a).toNat = 0 from by omega]; rfl
  | succ k ih =>
    intro a e h0 hk
    unfold ke
    split
    · rename_i hlt
      obtain ⟨T, hT⟩ : ∃ T, min 128 (a % 128 + e - a) = T := ⟨_, rfl⟩
      rw [hT]
      unfold M0
      rw [List.flatMap_cons]
      have h2 := ih (a + (T - a % 128)) e (by omega) (by omega)
      unfold M0 at h2
      rw [h2]
      dsimp only
      rw [slice_bytes A h0 (m := T - a % 128) (by omega) (by omega), show (e - a).toNat = (T - a % 128).toNat + (e - (a + (T - a % 128))).toNat from by omega, range_split]
      congr 1
      refine List.map_congr_left fun j _ => ?_
      congr 1; omega
    · rw [show (e - a).toNat = 0 from by omega]; rfl
theorem readL_cpl {n : NS} {W : RS} {D : Int → Option Sec} {nx : Int} (h : Cpl n W) (hI : Inv W D nx) : ∀ (l : List (Int × Int × Int)), (∀ q ∈ l, InB q.1) → QG n D l = some (M0 W.all l) := by
  intro l
  induction l with
  | nil => intro _; rfl
  | cons q l ih =>
    intro hq
    unfold QG
    rw [X5 h hI (hq q (by simp)), ih (fun p hp => hq p (by simp [hp]))]
    rfl
theorem VX {a m : Int} (h0 : 0 ≤ a) (he : a + m ≤ 136192) {q : Int × Int × Int} (hq : q ∈ ku a m) : InB q.1 := by
  have := Qk h0 hq
  unfold InB; omega
theorem read_cpl {n : NS} {W : RS} {D : Int → Option Sec} {nx : Int} (h : Cpl n W) (hI : Inv W D nx) {a m : Int} (ha : 0 ≤ a) (hm : 0 ≤ m) :
    QG n D (ku (min a n.size) (min m (n.size - min a n.size))) = some (Z8 W a m) := by
  have hs := hI.size
  rw [h.size]
  obtain ⟨b, hb⟩ : ∃ b, min a W.size = b := ⟨_, rfl⟩
  obtain ⟨c, hc⟩ : ∃ c, min m (W.size - b) = c := ⟨_, rfl⟩
  rw [hb, hc, readL_cpl h hI _ (fun q hq => VX (by omega) (by omega) hq)]
  unfold ku
  rw [catS_cut W.all _ b (b + c) (by omega) (by omega)]
  unfold Z8
  congr 1
  rw [show (b + c - b).toNat = c.toNat from by omega]
  by_cases hle : a ≤ W.size
  · rw [show b = a from by omega, show min (W.size - a) m = c from by omega]; rfl
  · rw [show c = 0 from by omega, show (min (W.size - a) m).toNat = 0 from by omega]; rfl
theorem XH : ∀ (l : List (Int × Int × Int)) (bs : List Int) (A : Int → Blk) (i : Int), (ky l bs A i).at_ = (A i).at_ := by
  intro l
  induction l with
  | nil => intro bs A i; rfl
  | cons q l ih =>
    intro bs A i
    unfold ky; rw [ih]; unfold upd; split
    · rename_i e; rw [e]
    · rfl
theorem Qw : ∀ (l : List (Int × Int × Int)) (bs : List Int) (A : Int → Blk) (i : Int), ((ky l bs A i).has = true ↔ ((A i).has = true ∨ ∃ q ∈ l, q.1 = i)) ∧ ((ky l bs A i).fresh = true ↔ ((A i).fresh = true ∨ ∃ q ∈ l, q.1 = i)) := by
  intro l
  induction l with
  | nil => intro bs A i; simp [ky]
  | cons q l ih =>
    intro bs A i
    unfold ky
    have h := ih (bs.drop (q.2.2 - q.2.1).toNat) (upd A q.1 ⟨true, (A q.1).at_, true, yC (A q.1).s q.2.1.toNat (bs.take (q.2.2 - q.2.1).toNat)⟩) i
    rw [h.1, h.2]
    by_cases e : i = q.1
    · subst e; rw [zQ]; simp
    · rw [wb _ _ e]; simp [Ne.symm e]
theorem wrAll_off : ∀ (l : List (Int × Int × Int)) (bs : List Int) (A : Int → Blk) (i : Int), (∀ q ∈ l, q.1 ≠ i) → ky l bs A i = A i := by
  intro l
  induction l with
  | nil => intro bs A i _; rfl
  | cons q l ih =>
    intro bs A i h
    unfold ky
    rw [ih _ _ _ (fun p hp => h p (by simp [hp])), wb _ _ (Ne.symm (h q (by simp)))]
theorem writeL_cpl (n : NS) (D : Int → Option Sec) : ∀ (l : List (Int × Int × Int)) (bs : List Int) (f : Int → Option Sec) (A : Int → Blk), (∀ q ∈ l, blk n D q.1 = some (A q.1).s) → l.Pairwise (fun p q => p.1 ≠ q.1) →
    (∀ i, InB i → Kw f n.data i = if (A i).fresh then some (A i).s else none) →
    ∃ f', ji n D l bs f = some f' ∧ ∀ i, InB i → Kw f' n.data i = if (ky l bs A i).fresh then some (ky l bs A i).s else none := by
  intro l
  induction l with
  | nil => intro bs f A _ _ h; exact ⟨f, rfl, h⟩
  | cons q l ih =>
    intro bs f A hq hp h
    have hp' := List.pairwise_cons.1 hp
    unfold ji ky
    rw [hq q (by simp)]
    refine ih _ _ _ (fun p hpl => ?_) hp'.2 (fun i hi => ?_)
    · rw [wb _ _ (Ne.symm (hp'.1 p hpl))]; exact hq p (by simp [hpl])
    · unfold Kw
      by_cases e : i = q.1
      · subst e; rw [zQ, zQ]; rfl
      · rw [wb _ _ e, wb _ _ e]; exact h i hi
theorem cut_distinct : ∀ (k : Nat) (a e : Int), 0 ≤ a → (e - a).toNat ≤ k → (ke k a e).Pairwise (fun p q => p.1 ≠ q.1) ∧ ∀ q ∈ ke k a e, a / 128 ≤ q.1 := by
  intro k
  induction k with
  | zero => intro a e _ _; exact ⟨List.Pairwise.nil, fun q hq => by cases hq⟩
  | succ k ih =>
    intro a e h0 hk
    unfold ke
    split
    · rename_i hlt
      obtain ⟨T, hT⟩ : ∃ T, min 128 (a % 128 + e - a) = T := ⟨_, rfl⟩
      rw [hT]
      have h2 := ih (a + (T - a % 128)) e (by omega) (by omega)
      refine ⟨List.pairwise_cons.2 ⟨fun q hq => ?_, h2.1⟩, fun q hq => ?_⟩
      · dsimp only
        by_cases he : T = 128
        · have := h2.2 q hq; omega
        · rw [j7 (by omega)] at hq; cases hq
      · rcases List.mem_cons.1 hq with rfl | hq
        · exact Int.le_refl _
        · have := h2.2 q hq; omega
    · exact ⟨List.Pairwise.nil, fun q hq => by cases hq⟩
theorem Wk {i : Int} (hi : InB i) : ww i = (2, 0) ∨ ww i = (3, 0) ∨ ∃ j, (0 ≤ j ∧ j < 32) ∧ ww i = (5, j) := by
  rcases wL (Q9 hi) with ⟨j, _, h⟩ | h | h | h | ⟨j, hj, h⟩
  · exact absurd (by rw [h]) (Jd i)
  · exact .inl h
  · exact .inr (.inl h)
  · exact absurd h (xt i)
  · exact .inr (.inr ⟨j, hj, h⟩)
structure SameP (W W1 : RS) : Prop where
  leaves : ∀ j, 0 ≤ j ∧ j < 32 → W1.leaves j = W.leaves j
  sg : W1.sg = W.sg
  db : W1.db = W.db
  self : W1.self = W.self
  gone : W1.gone = W.gone
  num : W1.num = W.num
  ver : W1.ver = W.ver
  kind : W1.kind = W.kind
  time : W1.time = W.time
  at_ : ∀ i, InB i → (W1.all i).at_ = (W.all i).at_
section
variable {W W1 : RS} (h : SameP W W1)
include h
theorem SameP.wh {k : Int × Int} (hk : qw k) : qn W1 k = qn W k := by
  rcases wL hk with ⟨i, hi, rfl⟩ | rfl | rfl | rfl | ⟨j, hj, rfl⟩
  · rw [yJ, yJ, h.at_ i hi]
  · unfold qn; rw [h.self]; simp
  · unfold qn; rw [h.sg]; simp
  · unfold qn; rw [h.db]; simp
  · rw [kf, kf, h.leaves j hj]
theorem SameP.st {k : Int × Int} (hk : qw k) (h1 : k.1 ≠ 1) : zD W1 k = zD W k := by
  rcases wL hk with ⟨i, hi, rfl⟩ | rfl | rfl | rfl | ⟨j, hj, rfl⟩
  · exact absurd rfl h1
  · unfold zD; rw [h.self]; simp
  · unfold zD; rw [h.sg]; simp
  · unfold zD; rw [h.db]; simp
  · unfold zD; rw [if_pos rfl, if_pos rfl, h.leaves j hj]
end
theorem YO {W W1 : RS} (h : ∀ k, qw k → qn W1 k = qn W k) {f : Int → Int × Int} (hf : ∀ j : Nat, j < 32 → qw (f j)) : y5 W1 f = y5 W f := by
  unfold y5
  refine List.map_congr_left fun j hj => h _ (hf j (List.mem_range.1 hj))
theorem xh {j : Int} (hj : 0 ≤ j ∧ j < 32) : ∀ i : Nat, i < 32 → qw (zP 2 j i) := fun i hi => QM (.inr ⟨rfl, hj.1, hj.2⟩) i hi
theorem xi : ∀ i : Nat, i < 32 → qw (zP 1 0 i) := fun i hi => QM (.inl ⟨rfl, rfl⟩) i hi
theorem xK : ∀ i : Nat, i < 32 → qw ((5 : Int), (i : Int)) := fun i hi => zz ⟨by omega, by omega⟩
theorem jH {W W1 : RS} (h : ∀ k, qw k → qn W1 k = qn W k) {k : Int × Int} (hk : qw k) (h1 : k.1 ≠ 1) (h2 : k.1 ≠ 2) : wx W1 k = wx W k := by
  rcases wL hk with ⟨i, hi, rfl⟩ | rfl | rfl | rfl | ⟨j, hj, rfl⟩
  · exact absurd rfl h1
  · exact absurd rfl h2
  · unfold wx; simp only [show ((3 : Int), (0 : Int)).1 = 3 from rfl]; rw [YO h xi]; simp
  · unfold wx; simp only [show ((4 : Int), (0 : Int)).1 = 4 from rfl]; rw [YO h xK]; simp
  · unfold wx; simp only [show ((5 : Int), j).1 = 5 from rfl, show ((5 : Int), j).2 = j from rfl]; rw [YO h (xh hj)]; simp
theorem ino_same {W W1 : RS} (h : ∀ k, qw k → qn W1 k = qn W k) (hn : W1.num = W.num) (hv : W1.ver = W.ver) (hk : W1.kind = W.kind) (hs : W1.size = W.size) (ht : W1.time = W.time) : jR W1 = jR W := by
  unfold jR
  have h3 := h (3, 0) zT
  have h4 := h (4, 0) zX
  rw [hn, hv, hk, hs, ht, show W1.sg.at_ = W.sg.at_ from h3, show W1.db.at_ = W.db.at_ from h4]
  congr 1
  refine List.map_congr_left fun j hj => h _ (y3 ?_)
  have := List.mem_range.1 hj
  exact ⟨by omega, by omega⟩
theorem xe {W W1 : RS} (h : ∀ k, qw k → qn W1 k = qn W k) (hn : W1.num = W.num) (hv : W1.ver = W.ver) (hk : W1.kind = W.kind) (hs : W1.size = W.size) (ht : W1.time = W.time) : wx W1 (2, 0) = wx W (2, 0) := by
  unfold wx; rw [ino_same h hn hv hk hs ht]; simp
theorem XY {W W1 : RS} (hf : ∀ i, InB i → (W.all i).fresh = true → (W1.all i).fresh = true) (hh : ∀ i, InB i → (W.all i).has = true → (W1.all i).has = true)
    (hs : ∀ k, qw k → k.1 ≠ 1 → zD W k = true → zD W1 k = true) {k : Int × Int} (hk : qw k) (h : prR W k) : prR W1 k := by
  have hfr : ∀ q, frB W q → frB W1 q := fun q ⟨i, hi, h1, h2⟩ => ⟨i, hi, hf i hi h1, h2⟩
  have hkb : ∀ q, jQ W q → jQ W1 q := fun q ⟨i, hi, h1, h2⟩ => ⟨i, hi, hh i hi h1, h2⟩
  have hch : ∀ q, qw q → q.1 ≠ 1 → chB W q → chB W1 q := fun q hq h1 h2 => h2.imp (hs q hq h1) (hfr q)
  have hcl : chL W → chL W1 := fun ⟨j, h0, h1, h2⟩ => ⟨j, h0, h1, hch _ (zz ⟨h0, h1⟩) (by simp) h2⟩
  rcases wL hk with ⟨i, hi, rfl⟩ | rfl | rfl | rfl | ⟨j, hj, rfl⟩
  · rw [ko] at h ⊢; exact hf i hi h
  · unfold prR at h ⊢
    simp only [show ((2 : Int), (0 : Int)).1 = 2 from rfl] at h ⊢
    simp only [show ¬ (2 : Int) = 1 by decide, show ¬ (2 : Int) = 5 by decide, show ¬ (2 : Int) = 3 by decide, show ¬ (2 : Int) = 4 by decide, if_false] at h ⊢
    rcases h with ⟨i, hi, h⟩ | h | h | h | h
    · exact .inl ⟨i, hi, hf i hi h⟩
    · exact .inr (.inl (hs _ y2 (by decide) h))
    · exact .inr (.inr (.inl (hs _ zT (by decide) h)))
    · exact .inr (.inr (.inr (.inl (hs _ zX (by decide) h))))
    · exact .inr (.inr (.inr (.inr (hcl h))))
  · unfold prR at h ⊢
    simp only [show ((3 : Int), (0 : Int)).1 = 3 from rfl] at h ⊢
    simp only [show ¬ (3 : Int) = 1 by decide, show ¬ (3 : Int) = 5 by decide, if_true, if_false] at h ⊢
    exact ⟨hch _ zT (by decide) h.1, hkb _ h.2⟩
  · unfold prR at h ⊢
    simp only [show ((4 : Int), (0 : Int)).1 = 4 from rfl] at h ⊢
    simp only [show ¬ (4 : Int) = 1 by decide, show ¬ (4 : Int) = 5 by decide, show ¬ (4 : Int) = 3 by decide, if_true, if_false] at h ⊢
    exact ⟨h.1.imp (hs _ zX (by decide)) hcl, hkb _ h.2⟩
  · unfold prR at h ⊢
    simp only [show ((5 : Int), j).1 = 5 from rfl] at h ⊢
    simp only [show ¬ (5 : Int) = 1 by decide, if_true, if_false] at h ⊢
    exact ⟨hch _ (zz hj) (by simp) h.1, hkb _ h.2⟩
theorem Jr {W : RS} {i : Int} (hi : InB i) (hf : (W.all i).fresh = true) (hh : (W.all i).has = true) {k : Int × Int} (hk : qw k) (h1 : k.1 ≠ 1) (hu : k = (2, 0) ∨ (k = (4, 0) ∧ (ww i).1 = 5) ∨ ww i = k) : prR W k := by
  have h2 : prR W (2, 0) := by
    unfold prR
    simp only [show ¬ (2 : Int) = 1 by decide, show ¬ (2 : Int) = 5 by decide, show ¬ (2 : Int) = 3 by decide, show ¬ (2 : Int) = 4 by decide, if_false]
    exact .inl ⟨i, hi, hf⟩
  rcases hu with rfl | ⟨rfl, h5⟩ | rfl
  · exact h2
  · unfold prR
    simp only [show ¬ (4 : Int) = 1 by decide, show ¬ (4 : Int) = 5 by decide, show ¬ (4 : Int) = 3 by decide, if_true, if_false]
    refine ⟨.inr ?_, ⟨i, hi, hh, .inl ⟨rfl, h5⟩⟩⟩
    rcases Wk hi with e | e | ⟨j, hj, e⟩
    · rw [e] at h5; exact absurd h5 (by decide)
    · rw [e] at h5; exact absurd h5 (by decide)
    · exact ⟨j, hj.1, hj.2, .inr ⟨i, hi, hf, e⟩⟩
  · rcases Wk hi with e | e | ⟨j, hj, e⟩
    · rw [e]; exact h2
    · rw [e]
      unfold prR
      simp only [show ¬ (3 : Int) = 1 by decide, show ¬ (3 : Int) = 5 by decide, if_true, if_false]
      exact ⟨.inr ⟨i, hi, hf, e⟩, ⟨i, hi, hh, .inr e⟩⟩
    · rw [e]
      unfold prR
      simp only [show ¬ (5 : Int) = 1 by decide, if_true, if_false]
      exact ⟨.inr ⟨i, hi, hf, e⟩, ⟨i, hi, hh, .inr e⟩⟩
theorem Inv.touch {W W1 : RS} {D : Int → Option Sec} {nx : Int} (hI : Inv W D nx) (T : Int → Prop) (hT : ∀ i, T i → InB i) (hne : ∃ i, T i) (hp : SameP W W1)
    (hhas : ∀ i, InB i → ((W1.all i).has = true ↔ ((W.all i).has = true ∨ T i))) (hfr : ∀ i, InB i → ((W1.all i).fresh = true ↔ ((W.all i).fresh = true ∨ T i)))
    (hs : ∀ i, InB i → ¬ T i → (W1.all i).s = (W.all i).s) (hsz : 0 ≤ W1.size ∧ W1.size ≤ 136192)
    (hz : ∀ i, InB i → ∀ j : Nat, j < 128 → W1.size ≤ 128 * i + j → (W1.all i).s.l.getD j 0 = 0) : Inv W1 D nx := by
  have hw : ∀ k, qw k → qn W1 k = qn W k := fun k hk => hp.wh hk
  have hmono : ∀ k, qw k → prR W k → prR W1 k := fun k hk h => XY (fun i hi h => (hfr i hi).2 (.inl h)) (fun i hi h => (hhas i hi).2 (.inl h)) (fun q hq h1 h => by rw [hp.st hq h1]; exact h) hk h
  have hkb : ∀ q, jQ W q → jQ W1 q := fun q ⟨i, hi, h1, h2⟩ => ⟨i, hi, (hhas i hi).2 (.inl h1), h2⟩
  obtain ⟨i0, h0⟩ := hne
  have hself : prR W1 (2, 0) := Jr (hT i0 h0) ((hfr i0 (hT i0 h0)).2 (.inr h0)) ((hhas i0 (hT i0 h0)).2 (.inr h0)) y2 (by decide) (.inl rfl)
  refine ⟨?_, ?_, ?_, ?_, ?_, ?_, ?_, ?_, ?_, ?_, ?_, ?_, hz, ?_, ?_, ?_, hsz, ?_, hI.nx⟩
  · intro i hi
    rw [hhas i hi, hfr i hi, hp.at_ i hi, hI.has i hi]
    constructor
    · rintro ((h | h) | h)
      · exact .inl (.inl h)
      · exact .inr h
      · exact .inl (.inr h)
    · rintro ((h | h) | h)
      · exact .inl (.inl h)
      · exact .inr h
      · exact .inl (.inr h)
  · intro i hi hn
    have hnT : ¬ T i := fun h => by rw [(hhas i hi).2 (.inr h)] at hn; cases hn
    rw [hs i hi hnT]
    refine hI.hole i hi ?_
    cases e : (W.all i).has with
    | false => rfl
    | true => rw [(hhas i hi).2 (.inl e)] at hn; cases hn
  · intro k hk h1 h2 h
    rw [hw k hk, hp.st hk h1] at h
    exact hkb k (hI.kid k hk h1 h2 h)
  · intro k hk h1 hkid
    rw [hw k hk]
    by_cases h2 : k.1 = 2
    · right
      rcases wL hk with ⟨i, hi, rfl⟩ | rfl | rfl | rfl | ⟨j, hj, rfl⟩
      · exact absurd rfl h1
      · exact hself
      · exact absurd h2 (by decide)
      · exact absurd h2 (by decide)
      · exact absurd h2 (by simp)
    · obtain ⟨i, hi, hh, hu⟩ := hkid h2
      rcases (hhas i hi).1 hh with ho | ht
      · exact (hI.place k hk h1 (fun _ => ⟨i, hi, ho, hu⟩)).imp_right (hmono k hk)
      · exact .inr (Jr hi ((hfr i hi).2 (.inr ht)) hh hk h1 (.inr hu))
  · intro k hk h; rw [hw k hk] at h ⊢; exact hI.rngA k hk h
  · intro a ha; rw [hp.gone] at ha; exact hI.rngG a ha
  · intro k q hk hq h e; rw [hw k hk] at h e; rw [hw q hq] at e; exact hI.inj k q hk hq h e
  · rw [hp.gone]; exact hI.gnd
  · intro a ha k hk; rw [hp.gone] at ha; rw [hw k hk]; exact hI.gdj a ha k hk
  · intro k hk h hn
    rw [hw k hk] at h ⊢
    rw [hI.disk k hk h (fun hp' => hn (hmono k hk hp'))]
    congr 1
    by_cases h1 : k.1 = 1
    · rcases wL hk with ⟨i, hi, rfl⟩ | rfl | rfl | rfl | ⟨j, hj, rfl⟩
      · rw [yc, yc, hs i hi]
        intro ht; exact hn (ko.2 ((hfr i hi).2 (.inr ht)))
      · exact absurd h1 (by decide)
      · exact absurd h1 (by decide)
      · exact absurd h1 (by decide)
      · exact absurd h1 (by simp)
    · by_cases h2 : k.1 = 2
      · rcases wL hk with ⟨i, hi, rfl⟩ | rfl | rfl | rfl | ⟨j, hj, rfl⟩
        · exact absurd rfl h1
        · exact absurd hself hn
        · exact absurd h2 (by decide)
        · exact absurd h2 (by decide)
        · exact absurd h2 (by simp)
      · exact (jH hw hk h1 h2).symm
  · intro a
    rw [hI.keys a, hp.gone]
    refine or_congr Iff.rfl ⟨?_, ?_⟩
    · rintro ⟨k, hk, e, h⟩; exact ⟨k, hk, by rw [hw k hk]; exact e, h⟩
    · rintro ⟨k, hk, e, h⟩; exact ⟨k, hk, by rw [← hw k hk]; exact e, h⟩
  · rw [hp.gone, hp.self]; exact hI.gone
  · rw [hp.num]; exact hI.num
  · rw [hp.ver]; exact hI.ver
  · rw [hp.kind]; exact hI.kind
  · rw [hp.time]; exact hI.time
theorem putB_getD (l m : List Int) (k j : Nat) (h : k + m.length ≤ l.length) : (QS l k m).getD j 0 = if k ≤ j ∧ j < k + m.length then m.getD (j - k) 0 else l.getD j 0 := by
  unfold QS
  simp only [List.getD_eq_getElem?_getD]
  by_cases h1 : j < k
  · rw [if_neg (by omega), List.append_assoc, List.getElem?_append_left (by rw [List.length_take]; omega), List.getElem?_take_of_lt h1]
  · by_cases h2 : j < k + m.length
    · rw [if_pos ⟨by omega, h2⟩, List.append_assoc, List.getElem?_append_right (by rw [List.length_take]; omega), List.length_take, List.getElem?_append_left (by omega)]
      congr 2; omega
    · rw [if_neg (by omega), List.getElem?_append_right (by rw [List.length_append, List.length_take]; omega), List.getElem?_drop, List.length_append, List.length_take]
      congr 2; omega
theorem J3 (s : Sec) (m : List Int) (k j : Nat) (h : k + m.length ≤ 128) (hb : IsB m) : (yC s k m).l.getD j 0 = if k ≤ j ∧ j < k + m.length then m.getD (j - k) 0 else s.l.getD j 0 := by
  rw [js h hb]
  exact putB_getD s.l m k j (by rw [s.len]; exact h)
theorem Xe {l : List Int} (h : IsB l) (n : Nat) : IsB (l.take n) := fun b hb => h b (List.mem_of_mem_take hb)
theorem isB_drop {l : List Int} (h : IsB l) (n : Nat) : IsB (l.drop n) := fun b hb => h b (List.mem_of_mem_drop hb)
theorem wrAll_byte : ∀ (k : Nat) (a e : Int) (bs : List Int) (A : Int → Blk) (z : Int), 0 ≤ a → (e - a).toNat ≤ k → bs.length = (e - a).toNat → IsB bs → 0 ≤ z →
    Wh (ky (ke k a e) bs A) z = if a ≤ z ∧ z < e then bs.getD (z - a).toNat 0 else Wh A z := by
  intro k
  induction k with
  | zero => intro a e bs A z h0 hk hl hb hz; rw [if_neg (by omega)]; rfl
  | succ k ih =>
    intro a e bs A z h0 hk hl hb hz
    unfold ke
    split
    · rename_i hlt
      obtain ⟨T, hT⟩ : ∃ T, min 128 (a % 128 + e - a) = T := ⟨_, rfl⟩
      rw [hT]
      unfold ky
      dsimp only
      obtain ⟨m, hm⟩ : ∃ m : Nat, (T - a % 128).toNat = m := ⟨_, rfl⟩
      rw [hm]
      have htl : (bs.take m).length = m := by rw [List.length_take]; omega
      rw [ih (a + (T - a % 128)) e (bs.drop m) _ z (by omega) (by omega) (by rw [List.length_drop]; omega) (isB_drop hb m) hz]
      by_cases h1 : a + (T - a % 128) ≤ z ∧ z < e
      · rw [if_pos h1, if_pos (by omega)]
        simp only [List.getD_eq_getElem?_getD, List.getElem?_drop]
        congr 2; omega
      · rw [if_neg h1]
        unfold Wh
        by_cases hq : z / 128 = a / 128
        · rw [hq, zQ]
          dsimp only
          rw [J3 _ _ _ _ (by rw [htl]; omega) (Xe hb m), htl]
          by_cases h2 : a ≤ z ∧ z < e
          · rw [if_pos (by omega), if_pos h2]
            simp only [List.getD_eq_getElem?_getD]
            rw [List.getElem?_take_of_lt (by omega)]
            congr 2; omega
          · rw [if_neg (by omega), if_neg h2]
        · rw [wb _ _ hq, if_neg (by omega)]
    · rw [if_neg (by omega)]; rfl
theorem cut_has : ∀ (k : Nat) (a e : Int), 0 ≤ a → a < e → 0 < k → ∃ q ∈ ke k a e, q.1 = a / 128 := by
  intro k a e h0 h1 hk
  obtain ⟨k, rfl⟩ : ∃ j, k = j + 1 := ⟨k - 1, by omega⟩
  unfold ke; rw [if_pos h1]
  exact ⟨_, List.mem_cons_self, rfl⟩
theorem XO {A : Int → Blk} {i : Int} {j : Nat} (hj : j < 128) : (A i).s.l.getD j 0 = Wh A (128 * i + j) := by
  unfold Wh
  rw [show (128 * i + j) / 128 = i from by omega, show ((128 * i + j) % 128).toNat = j from by omega]
theorem writeL_sup (n : NS) (D : Int → Option Sec) : ∀ (l : List (Int × Int × Int)) (bs : List Int) (f f' : Int → Option Sec), ji n D l bs f = some f' → ∀ i, f' i ≠ none → f i ≠ none ∨ ∃ q ∈ l, q.1 = i := by
  intro l
  induction l with
  | nil => intro bs f f' h i hi; cases h; exact .inl hi
  | cons q l ih =>
    intro bs f f' h i hi
    unfold ji at h
    split at h
    · cases h
    · rcases ih _ _ _ h i hi with h1 | ⟨p, hp, e⟩
      · by_cases e : i = q.1
        · exact .inr ⟨q, by simp, e.symm⟩
        · rw [wb _ _ e] at h1; exact .inl h1
      · exact .inr ⟨p, by simp [hp], e⟩
theorem Kz {n : NS} {W : RS} {D : Int → Option Sec} {nx : Int} (h : Cpl n W) (hI : Inv W D nx) (a : Int) (bs : List Int) (hb : IsB bs) :
    (ju n D a bs).1 = (kU W a bs).1 ∧ Cpl (ju n D a bs).2 (kU W a bs).2 ∧ Inv (kU W a bs).2 D nx := by
  unfold ju kU
  by_cases hc : kv a bs.length ≠ 0 ∨ bs.length = 0
  · rw [if_pos hc, if_pos hc]; exact ⟨rfl, h, hI⟩
  · rw [if_neg hc, if_neg hc]
    have hE : kv a bs.length = 0 := Classical.byContradiction fun e => hc (.inl e)
    have hL : bs.length ≠ 0 := fun e => hc (.inr e)
    have hrng : 0 ≤ a ∧ a + bs.length ≤ 136192 := by
      unfold kv at hE
      split at hE
      · cases hE
      · split at hE
        · cases hE
        · omega
    have hq : ∀ q ∈ ku a bs.length, InB q.1 := fun q hq => VX hrng.1 hrng.2 hq
    have hd := cut_distinct (bs.length : Int).toNat a (a + bs.length) hrng.1 (by omega)
    obtain ⟨f', hf', hag⟩ := writeL_cpl n D (ku a bs.length) bs (fun _ => none) W.all (fun q hqq => X5 h hI (hq q hqq)) hd.1 (fun i hi => h.data i hi)
    rw [hf']
    have hby : ∀ z, 0 ≤ z → Wh (ky (ku a bs.length) bs W.all) z = if a ≤ z ∧ z < a + bs.length then bs.getD (z - a).toNat 0 else Wh W.all z := fun z hz =>
      wrAll_byte _ a (a + bs.length) bs W.all z hrng.1 (by omega) (by omega) hb hz
    refine ⟨rfl, ⟨h.num, h.ver, h.kind, by rw [show n.size = W.size from h.size], h.time, fun k hk => ?_, hag, h.stale, h.stale1, h.gone, ⟨fun i hi => ?_, h.ok.at1, h.ok.at2, h.ok.stale⟩⟩, ?_⟩
    · rw [show ({ n with data := Kw f' n.data, size := max W.size (a + bs.length) } : NS).at_ = n.at_ from rfl, h.at_ k hk]
      rcases wL hk with ⟨i, hi, rfl⟩ | rfl | rfl | rfl | ⟨j, hj, rfl⟩
      · rw [yJ, yJ]; exact (XH _ _ _ _).symm
      all_goals rfl
    · have hi' : Kw f' n.data i ≠ none := hi
      unfold Kw at hi'
      cases e : f' i with
      | some s =>
        rcases writeL_sup n D _ _ _ _ hf' i (by rw [e]; simp) with h1 | ⟨q, hqq, rfl⟩
        · exact absurd rfl h1
        · exact hq q hqq
      | none => rw [e] at hi'; exact h.ok.data i hi'
    · have hs := hI.size
      refine hI.touch (fun i => ∃ q ∈ ku a bs.length, q.1 = i) (fun i ⟨q, hqq, e⟩ => e ▸ hq q hqq) ?_ ⟨fun _ _ => rfl, rfl, rfl, rfl, rfl, rfl, rfl, rfl, rfl, fun i _ => XH _ _ _ _⟩ (fun i _ => (Qw _ _ _ i).1) (fun i _ => (Qw _ _ _ i).2) (fun i _ hn => ?_) (by dsimp only; omega) ?_
      · obtain ⟨q, hqq, e⟩ := cut_has (bs.length : Int).toNat a (a + bs.length) hrng.1 (by omega) (by omega)
        exact ⟨_, q, hqq, e⟩
      · dsimp only; rw [wrAll_off _ _ _ i (fun q hqq e => hn ⟨q, hqq, e⟩)]
      · intro i hi j hj hle
        dsimp only at hle ⊢
        have := hi.1
        rw [XO hj, hby _ (by omega), if_neg (by omega), ← XO hj]
        exact hI.zero i hi j hj (by omega)
theorem Xc {W W1 : RS} (h : ∀ i, InB i → (W1.all i).has = (W.all i).has) (k : Int × Int) : jQ W1 k ↔ jQ W k := by
  unfold jQ
  constructor
  · rintro ⟨i, hi, h1, h2⟩; exact ⟨i, hi, by rw [← h i hi]; exact h1, h2⟩
  · rintro ⟨i, hi, h1, h2⟩; exact ⟨i, hi, by rw [h i hi]; exact h1, h2⟩
theorem ZX {W : RS} (h : W.self.stale = true) : prR W (2, 0) := by
  unfold prR
  simp only [show ¬ (2 : Int) = 1 by decide, show ¬ (2 : Int) = 5 by decide, show ¬ (2 : Int) = 3 by decide, show ¬ (2 : Int) = 4 by decide, if_false]
  exact .inr (.inl h)
theorem Inv.mark {W W1 : RS} {D : Int → Option Sec} {nx : Int} (hI : Inv W D nx) (hall : ∀ i, InB i → W1.all i = W.all i) (hw : ∀ k, qw k → qn W1 k = qn W k)
    (hst : ∀ k, qw k → k.1 ≠ 1 → zD W k = true → zD W1 k = true) (hnew : ∀ k, qw k → k.1 ≠ 1 → k.1 ≠ 2 → zD W1 k = true → zD W k = true ∨ jQ W k)
    (hg : W1.gone = W.gone) (hn : W1.num = W.num) (hv : W1.ver = W.ver) (hkd : W1.kind = W.kind) (hts : (W1.size = W.size ∧ W1.time = W.time) ∨ W1.self.stale = true)
    (hsz : 0 ≤ W1.size ∧ W1.size ≤ 136192) (ht : 0 ≤ W1.time ∧ W1.time < 4294967296) (hz : ∀ i, InB i → ∀ j : Nat, j < 128 → W1.size ≤ 128 * i + j → (W.all i).s.l.getD j 0 = 0) : Inv W1 D nx := by
  have hkb := Xc (W := W) (W1 := W1) (fun i hi => by rw [hall i hi])
  have hmono : ∀ k, qw k → prR W k → prR W1 k := fun k hk h => XY (fun i hi h => by rw [hall i hi]; exact h) (fun i hi h => by rw [hall i hi]; exact h) hst hk h
  refine ⟨?_, ?_, ?_, ?_, ?_, ?_, ?_, ?_, ?_, ?_, ?_, ?_, ?_, ?_, ?_, ?_, hsz, ht, hI.nx⟩
  · intro i hi; rw [hall i hi]; exact hI.has i hi
  · intro i hi; rw [hall i hi]; exact hI.hole i hi
  · intro k hk h1 h2 h
    rw [hkb]
    rw [hw k hk] at h
    rcases h with h | h
    · exact hI.kid k hk h1 h2 (.inl h)
    · exact (hnew k hk h1 h2 h).elim (fun e => hI.kid k hk h1 h2 (.inr e)) id
  · intro k hk h1 h
    rw [hw k hk]
    exact (hI.place k hk h1 (fun h2 => (hkb k).1 (h h2))).imp_right (hmono k hk)
  · intro k hk h; rw [hw k hk] at h ⊢; exact hI.rngA k hk h
  · intro a ha; rw [hg] at ha; exact hI.rngG a ha
  · intro k q hk hq h e; rw [hw k hk] at h e; rw [hw q hq] at e; exact hI.inj k q hk hq h e
  · rw [hg]; exact hI.gnd
  · intro a ha k hk; rw [hg] at ha; rw [hw k hk]; exact hI.gdj a ha k hk
  · intro k hk h hp
    rw [hw k hk] at h ⊢
    rw [hI.disk k hk h (fun e => hp (hmono k hk e))]
    congr 1
    rcases wL hk with ⟨i, hi, rfl⟩ | rfl | rfl | rfl | ⟨j, hj, rfl⟩
    · rw [yc, yc, hall i hi]
    · rcases hts with ⟨e1, e2⟩ | e
      · exact (xe hw hn hv hkd e1 e2).symm
      · exact absurd (ZX e) hp
    · exact (jH hw zT (by decide) (by decide)).symm
    · exact (jH hw zX (by decide) (by decide)).symm
    · exact (jH hw (zz hj) (by simp) (by simp)).symm
  · intro a
    rw [hI.keys a, hg]
    refine or_congr Iff.rfl ⟨?_, ?_⟩
    · rintro ⟨k, hk, e, h⟩; exact ⟨k, hk, by rw [hw k hk]; exact e, h⟩
    · rintro ⟨k, hk, e, h⟩; exact ⟨k, hk, by rw [← hw k hk]; exact e, h⟩
  · intro h; rw [hg] at h; exact hst (2, 0) y2 (by decide) (hI.gone h)
  · intro i hi; rw [hall i hi]; exact hz i hi
  · rw [hn]; exact hI.num
  · rw [hv]; exact hI.ver
  · rw [hkd]; exact hI.kind
theorem Cpl.live {n : NS} {W : RS} (h : Cpl n W) {D : Int → Option Sec} {nx : Int} (hI : Inv W D nx) {k : Int × Int} (hk : qw k) (a : Int) : Wc n k a ↔ xP W k a := by
  unfold Wc xP
  rw [show atN n k = (n.at_ k).getD 0 from rfl, h.at_ k hk, h.parts hI.has]
theorem KL (W : RS) (k : Int × Int) {q : Int × Int} (hk : qw k) : qn (yS W k) q = qn W q := by
  rcases wL hk with ⟨i, hi, rfl⟩ | rfl | rfl | rfl | ⟨j, hj, rfl⟩
  · unfold yS; rw [if_pos rfl]; unfold qn; dsimp only
    split
    · unfold upd; split
      · rename_i e; rw [e]
      · rfl
    · rfl
  · rfl
  · rfl
  · rfl
  · unfold yS; rw [if_neg (by simp), if_pos rfl]; unfold qn; dsimp only
    split
    · rfl
    · split
      · unfold upd; split
        · rename_i e; rw [e]
        · rfl
      · rfl
theorem KM (W : RS) {k : Int × Int} (hk : qw k) (h1 : k.1 ≠ 1) {q : Int × Int} (hq : qw q) (hq1 : q.1 ≠ 1) : zD (yS W k) q = if q = k then true else zD W q := by
  rcases wL hk with ⟨i, hi, rfl⟩ | rfl | rfl | rfl | ⟨j, hj, rfl⟩
  · exact absurd rfl h1
  · rcases wL hq with ⟨i, hi, rfl⟩ | rfl | rfl | rfl | ⟨j, hj, rfl⟩
    · exact absurd rfl hq1
    · rfl
    · rfl
    · rfl
    · rw [if_neg (by simp)]; rfl
  · rcases wL hq with ⟨i, hi, rfl⟩ | rfl | rfl | rfl | ⟨j, hj, rfl⟩
    · exact absurd rfl hq1
    · rfl
    · rfl
    · rfl
    · rw [if_neg (by simp)]; rfl
  · rcases wL hq with ⟨i, hi, rfl⟩ | rfl | rfl | rfl | ⟨j, hj, rfl⟩
    · exact absurd rfl hq1
    · rfl
    · rfl
    · rfl
    · rw [if_neg (by simp)]; rfl
  · unfold yS; rw [if_neg (by simp), if_pos rfl]
    rcases wL hq with ⟨i, hi, rfl⟩ | rfl | rfl | rfl | ⟨j', hj', rfl⟩
    · exact absurd rfl hq1
    · rw [if_neg (by simp)]; rfl
    · rw [if_neg (by simp)]; rfl
    · rw [if_neg (by simp)]; rfl
    · unfold zD; rw [if_pos rfl, if_pos rfl]; dsimp only; unfold upd
      by_cases e : j' = j
      · rw [if_pos e, if_pos (by rw [e])]
      · rw [if_neg e, if_neg (by simpa using e)]
theorem Cpl.setStale {n : NS} {W W1 : RS} (h : Cpl n W) {k : Int × Int} (hk : qw k) (h1 : k.1 ≠ 1) (hall : ∀ i, InB i → W1.all i = W.all i) (hw : ∀ q, qw q → qn W1 q = qn W q)
    (hst : ∀ q, qw q → q.1 ≠ 1 → zD W1 q = if q = k then true else zD W q) (hg : W1.gone = W.gone) (hn : W1.num = W.num) (hv : W1.ver = W.ver) (hkd : W1.kind = W.kind) (n1 : NS)
    (hn1 : n1 = { setStale n k with size := W1.size, time := W1.time }) : Cpl n1 W1 := by
  subst hn1
  refine ⟨h.num.trans hn.symm, h.ver.trans hv.symm, h.kind.trans hkd.symm, rfl, rfl, fun q hq => (h.at_ q hq).trans (hw q hq).symm, fun i hi => by rw [hall i hi]; exact h.data i hi, fun q hq hq1 => ?_, fun i => ?_, by rw [hg]; exact h.gone, ⟨h.ok.data, h.ok.at1, h.ok.at2, (h.ok.setStale hk).stale⟩⟩
  · rw [hst q hq hq1]
    show upd n.stale k (some 1) q ≠ none ↔ _
    unfold upd; split
    · simp
    · exact h.stale q hq hq1
  · show upd n.stale k (some 1) (1, i) = none
    rw [wb _ _ (fun e => h1 (by rw [← e]))]; exact h.stale1 i
theorem move_cpl {n : NS} {W : RS} {D : Int → Option Sec} {nx : Int} (h : Cpl n W) (hI : Inv W D nx) {k : Int × Int} (hk : qw k) (a : Int) :
    (QI n k a D).1 = (decide (xP W k a), 0) ∧ Cpl (QI n k a D).2 (if xP W k a then yS W k else W) ∧ Inv (if xP W k a then yS W k else W) D nx := by
  unfold QI
  by_cases hl : xP W k a
  · rw [if_pos ((h.live hI hk a).2 hl), if_pos hl, decide_eq_true hl]
    have hl' := hl
    obtain ⟨ha, hwa, hnp⟩ := hl'
    have hnp' : ¬ prR W k := fun e => hnp ((Q0 W k).2 ⟨hk, e⟩)
    by_cases h1 : k.1 = 1
    · rw [if_pos h1]
      obtain ⟨i, hi, rfl⟩ : ∃ i, InB i ∧ k = (1, i) := by
        rcases wL hk with e | rfl | rfl | rfl | ⟨j, hj, rfl⟩
        · exact e
        · exact absurd h1 (by decide)
        · exact absurd h1 (by decide)
        · exact absurd h1 (by decide)
        · exact absurd h1 (by simp)
      have hd := hI.disk (1, i) hk (by rw [hwa]; exact ha) hnp'
      rw [hwa, yc] at hd
      rw [hd]
      have hhas : (W.all i).has = true := (hI.has i hi).2 (.inr (by rw [yJ] at hwa; rw [hwa]; exact ha))
      have hmv : yS W (1, i) = { W with all := upd W.all i { W.all i with fresh := true } } := by unfold yS; rw [if_pos rfl]
      refine ⟨rfl, ?_, ?_⟩
      · rw [hmv]
        refine ⟨h.num, h.ver, h.kind, h.size, h.time, fun q hq => (h.at_ q hq).trans (by rw [← hmv]; exact (KL W (1, i) hk).symm), fun j hj => ?_, h.stale, h.stale1, h.gone, ⟨fun j hj => ?_, h.ok.at1, h.ok.at2, h.ok.stale⟩⟩
        · show upd n.data i (some (W.all i).s) j = _
          dsimp only
          by_cases e : j = i
          · subst e; simp only [zQ]; rfl
          · simp only [wb _ _ e]; exact h.data j hj
        · by_cases e : j = i
          · subst e; exact hi
          · exact h.ok.data j (by have hj' : upd n.data i (some (W.all i).s) j ≠ none := hj; rwa [wb _ _ e] at hj')
      · rw [hmv]
        refine hI.touch (fun j => j = i) (fun j e => e ▸ hi) ⟨i, rfl⟩ ⟨fun _ _ => rfl, rfl, rfl, rfl, rfl, rfl, rfl, rfl, rfl, fun j hj => ?_⟩ (fun j hj => ?_) (fun j hj => ?_) (fun j hj hn => ?_) hI.size (fun j hj m hm hle => ?_)
        · dsimp only; unfold upd; split
          · rename_i e; rw [e]
          · rfl
        · dsimp only
          by_cases e : j = i
          · subst e; rw [zQ]; simp [hhas]
          · rw [wb _ _ e]; simp [e]
        · dsimp only
          by_cases e : j = i
          · subst e; rw [zQ]; simp
          · rw [wb _ _ e]; simp [e]
        · dsimp only; rw [wb _ _ hn]
        · dsimp only at hle ⊢
          by_cases e : j = i
          · subst e; rw [zQ]; exact hI.zero j hj m hm hle
          · rw [wb _ _ e]; exact hI.zero j hj m hm hle
    · rw [if_neg h1]
      have hsame : (yS W k).all = W.all ∧ (yS W k).gone = W.gone ∧ (yS W k).num = W.num ∧ (yS W k).ver = W.ver ∧ (yS W k).kind = W.kind ∧ (yS W k).size = W.size ∧ (yS W k).time = W.time := by
        unfold yS; rw [if_neg h1]
        split
        · exact ⟨rfl, rfl, rfl, rfl, rfl, rfl, rfl⟩
        · split
          · exact ⟨rfl, rfl, rfl, rfl, rfl, rfl, rfl⟩
          · split <;> exact ⟨rfl, rfl, rfl, rfl, rfl, rfl, rfl⟩
      obtain ⟨e1, e2, e3, e4, e5, e6, e7⟩ := hsame
      refine ⟨rfl, ?_, ?_⟩
      · exact h.setStale hk h1 (fun i _ => by rw [e1]) (fun q _ => KL W k hk) (fun q hq hq1 => KM W hk h1 hq hq1) e2 e3 e4 e5 _ (by rw [e6, e7, ← h.size, ← h.time]; rfl)
      · refine hI.mark (fun i _ => by rw [e1]) (fun q _ => KL W k hk) (fun q hq hq1 hs => ?_) (fun q hq hq1 hq2 hs => ?_) e2 e3 e4 e5 (.inl ⟨e6, e7⟩) (by rw [e6]; exact hI.size) (by rw [e7]; exact hI.time) (fun i hi j hj hle => hI.zero i hi j hj (by rw [e6] at hle; exact hle))
        · rw [KM W hk h1 hq hq1, hs]; simp
        · rw [KM W hk h1 hq hq1] at hs
          by_cases e : q = k
          · subst e; exact .inr (hI.kid q hq hq1 hq2 (.inl (by rw [hwa]; exact ha)))
          · rw [if_neg e] at hs; exact .inl hs
  · rw [if_neg (fun e => hl ((h.live hI hk a).1 e)), if_neg hl, decide_eq_false hl]
    exact ⟨rfl, h, hI⟩
theorem ZT {n : NS} {W : RS} {D : Int → Option Sec} {nx : Int} (h : Cpl n W) (hI : Inv W D nx) (t : Int) (ht : 0 ≤ t ∧ t < 4294967296) : Cpl (jG n t) (j1 W t) ∧ Inv (j1 W t) D nx := by
  unfold jG j1
  rw [h.time]
  by_cases e : W.time ≠ t
  · rw [if_pos e, if_pos e]
    have hst : ∀ q, qw q → q.1 ≠ 1 → zD { W with time := t, self := ⟨W.self.at_, true⟩ } q = if q = (2, 0) then true else zD W q := by
      intro q hq hq1
      rcases wL hq with ⟨i, hi, rfl⟩ | rfl | rfl | rfl | ⟨j, hj, rfl⟩
      · exact absurd rfl hq1
      · rfl
      · rfl
      · rfl
      · rw [if_neg (by simp)]; rfl
    refine ⟨h.setStale (W1 := { W with time := t, self := ⟨W.self.at_, true⟩ }) y2 (by decide) (fun _ _ => rfl) (fun _ _ => rfl) hst rfl rfl rfl rfl _ (by dsimp only; rw [show W.size = n.size from h.size.symm]; rfl), ?_⟩
    refine hI.mark (fun _ _ => rfl) (fun _ _ => rfl) (fun q hq hq1 hs => by rw [hst q hq hq1, hs]; simp) (fun q hq hq1 hq2 hs => ?_) rfl rfl rfl rfl (.inr rfl) hI.size ht hI.zero
    rw [hst q hq hq1, if_neg (fun e => hq2 (by rw [e]))] at hs
    exact .inl hs
  · rw [if_neg e, if_neg e]; exact ⟨h, hI⟩
theorem Yn (W : RS) {k : Int × Int} (hk : qw k) (a : Int) {q : Int × Int} (hq : qw q) : qn (kO W k a) q = if q = k then a else qn W q := by
  rcases wL hk with ⟨i, hi, rfl⟩ | rfl | rfl | rfl | ⟨j, hj, rfl⟩
  · unfold kO; rw [if_pos rfl]
    rcases wL hq with ⟨i', hi', rfl⟩ | rfl | rfl | rfl | ⟨j, hj, rfl⟩
    · rw [yJ, yJ]; dsimp only
      by_cases e : i' = i
      · subst e; rw [zQ, if_pos rfl]
      · rw [wb _ _ e, if_neg (by simpa using e)]
    · rw [if_neg (by simp)]; rfl
    · rw [if_neg (by simp)]; rfl
    · rw [if_neg (by simp)]; rfl
    · rw [if_neg (by simp)]; rfl
  · rcases wL hq with ⟨i', hi', rfl⟩ | rfl | rfl | rfl | ⟨j, hj, rfl⟩
    · rw [if_neg (by simp)]; rfl
    · rfl
    · rfl
    · rfl
    · rw [if_neg (by simp)]; rfl
  · rcases wL hq with ⟨i', hi', rfl⟩ | rfl | rfl | rfl | ⟨j, hj, rfl⟩
    · rw [if_neg (by simp)]; rfl
    · rfl
    · rfl
    · rfl
    · rw [if_neg (by simp)]; rfl
  · rcases wL hq with ⟨i', hi', rfl⟩ | rfl | rfl | rfl | ⟨j, hj, rfl⟩
    · rw [if_neg (by simp)]; rfl
    · rfl
    · rfl
    · rfl
    · rw [if_neg (by simp)]; rfl
  · unfold kO; rw [if_neg (by simp), if_pos rfl]
    rcases wL hq with ⟨i', hi', rfl⟩ | rfl | rfl | rfl | ⟨j', hj', rfl⟩
    · rw [if_neg (by simp)]; rfl
    · rw [if_neg (by simp)]; rfl
    · rw [if_neg (by simp)]; rfl
    · rw [if_neg (by simp)]; rfl
    · rw [kf, kf]; dsimp only
      by_cases e : j' = j
      · subst e; rw [zQ, if_pos rfl]
      · rw [wb _ _ e, if_neg (by simpa using e)]
theorem putR_blk (W : RS) (k : Int × Int) (a : Int) (i : Int) : ((kO W k a).all i).has = (W.all i).has ∧ ((kO W k a).all i).s = (W.all i).s ∧ ((kO W k a).all i).fresh = (if k = (1, i) then false else (W.all i).fresh) := by
  unfold kO
  by_cases h1 : k.1 = 1
  · rw [if_pos h1]; dsimp only
    by_cases e : i = k.2
    · have ek : k = (1, i) := by rw [e]; exact Prod.ext h1 rfl
      rw [if_pos ek, e, zQ]; exact ⟨rfl, rfl, rfl⟩
    · rw [wb _ _ e, if_neg (fun h => e (by rw [h]))]; exact ⟨rfl, rfl, rfl⟩
  · have hne : k ≠ (1, i) := fun h => h1 (by rw [h])
    rw [if_neg h1, if_neg hne]
    split
    · exact ⟨rfl, rfl, rfl⟩
    · split
      · exact ⟨rfl, rfl, rfl⟩
      · split <;> exact ⟨rfl, rfl, rfl⟩
theorem cm_cpl : ∀ (l : List (Int × Int)) (bs : List Int) (f : Int × Int → Option Int) (ds : List Int) (X : RS) (es : List Int), (∀ k ∈ l, qw k) → (∀ k, qw k → (f k).getD 0 = qn X k) → ds.Perm es →
    (∀ k, qw k → ((kS l bs (f, ds)).1 k).getD 0 = qn (zI l bs (X, es)).1 k) ∧ (kS l bs (f, ds)).2.Perm (zI l bs (X, es)).2 := by
  intro l
  induction l with
  | nil => intro bs f ds X es _ h hp; rw [Ye, jT]; exact ⟨h, hp⟩
  | cons k l ih =>
    intro bs f ds X es hl h hp
    cases bs with
    | nil => exact ⟨h, hp⟩
    | cons a bs =>
      rw [kS, zI]
      have hk := hl k (by simp)
      refine ih bs _ _ _ _ (fun q hq => hl q (by simp [hq])) (fun q hq => ?_) ?_
      · dsimp only
        rw [Yn X hk a hq]; unfold upd
        by_cases e : q = k
        · rw [if_pos e, if_pos e]; rfl
        · rw [if_neg e, if_neg e]; exact h q hq
      · dsimp only
        rw [h k hk]
        split
        · exact hp.append_right _
        · exact hp
theorem cmR_in : ∀ (l : List (Int × Int)) (bs : List Int) (s : RS × List Int), (∀ k ∈ l, qw k) → l.Nodup → l.length = bs.length →
    (∀ (i : Nat) k a, l[i]? = some k → bs[i]? = some a → qn (zI l bs s).1 k = a) ∧ (∀ k, qw k → k ∉ l → qn (zI l bs s).1 k = qn s.1 k) ∧
    (zI l bs s).2 = s.2 ++ nz (l.map (qn s.1)) := by
  intro l
  induction l with
  | nil =>
    intro bs s _ _ _
    rw [jT]
    exact ⟨fun i k a h => by simp at h, fun k _ _ => rfl, by simp [nz]⟩
  | cons k l ih =>
    intro bs s hl hn hlen
    cases bs with
    | nil => simp at hlen
    | cons a bs =>
      rw [zI]
      have hk := hl k (by simp)
      have hn' := List.nodup_cons.1 hn
      obtain ⟨h1, h2, h3⟩ := ih bs (kO s.1 k a, if qn s.1 k ≠ 0 then s.2 ++ [qn s.1 k] else s.2) (fun q hq => hl q (by simp [hq])) hn'.2 (by simpa using hlen)
      refine ⟨fun i q b hq hb => ?_, fun q hq hnq => ?_, ?_⟩
      · cases i with
        | zero =>
          obtain rfl : k = q := by simpa using hq
          obtain rfl : a = b := by simpa using hb
          rw [h2 k hk hn'.1]; dsimp only; rw [Yn s.1 hk a hk, if_pos rfl]
        | succ i => exact h1 i q b (by simpa using hq) (by simpa using hb)
      · rw [h2 q hq (fun h => hnq (by simp [h]))]; dsimp only
        rw [Yn s.1 hk a hq, if_neg (fun e => hnq (by simp [e]))]
      · rw [h3]; dsimp only
        have hm : l.map (qn (kO s.1 k a)) = l.map (qn s.1) := List.map_congr_left fun q hq => by
          rw [Yn s.1 hk a (hl q (by simp [hq])), if_neg (fun e => hn'.1 (by rw [← e]; exact hq))]
        rw [hm, List.map_cons]
        unfold nz
        rw [List.filter_cons]
        by_cases e : qn s.1 k ≠ 0
        · rw [if_pos e, if_pos (by simpa using e), List.append_assoc]; rfl
        · rw [if_neg e, if_neg (by simpa using e)]
theorem VY : ∀ (l : List (Int × Int)) (bs : List Int) (s : RS × List Int) (i : Int), l.length = bs.length → ((zI l bs s).1.all i).has = (s.1.all i).has ∧ ((zI l bs s).1.all i).s = (s.1.all i).s ∧
    (((zI l bs s).1.all i).fresh = true ↔ ((s.1.all i).fresh = true ∧ (1, i) ∉ l)) := by
  intro l
  induction l with
  | nil => intro bs s i _; rw [jT]; simp
  | cons k l ih =>
    intro bs s i hlen
    cases bs with
    | nil => simp at hlen
    | cons a bs =>
      rw [zI]
      have h := ih bs (kO s.1 k a, if qn s.1 k ≠ 0 then s.2 ++ [qn s.1 k] else s.2) i (by simpa using hlen)
      have h2 := putR_blk s.1 k a i
      refine ⟨h.1.trans h2.1, h.2.1.trans h2.2.1, ?_⟩
      rw [h.2.2, h2.2.2]
      by_cases e : k = (1, i)
      · rw [if_pos e, e]; simp
      · rw [if_neg e]; simp [Ne.symm e]
theorem sectorR_ext {W W1 : RS} (h : ∀ k, qw k → qn W1 k = qn W k) (hs : ∀ i, InB i → (W1.all i).s = (W.all i).s) (hn : W1.num = W.num) (hv : W1.ver = W.ver) (hk : W1.kind = W.kind) (hsz : W1.size = W.size) (ht : W1.time = W.time)
    {k : Int × Int} (hkp : qw k) : wx W1 k = wx W k := by
  rcases wL hkp with ⟨i, hi, rfl⟩ | rfl | rfl | rfl | ⟨j, hj, rfl⟩
  · rw [yc, yc, hs i hi]
  · exact xe h hn hv hk hsz ht
  · exact jH h zT (by decide) (by decide)
  · exact jH h zX (by decide) (by decide)
  · exact jH h (zz hj) (by simp) (by simp)
theorem Jq {l m : List Int} (hl : jY l) (h : l = m) : jy l hl = Z9 m := by subst h; exact (WX hl).symm
theorem inoS_eq {x y : Ino} (hx : x.Ok) (h : x = y) : Zd x hx = VS y := by subst h; exact (KU hx).symm
theorem sector_eq {n : NS} {W : RS} (hok : NOk n) (hf : NFl n) (hat : ∀ k, qw k → (n.at_ k).getD 0 = qn W k) (hn : n.num = W.num) (hv : n.ver = W.ver) (hkd : n.kind = W.kind) (hsz : n.size = W.size) (ht : n.time = W.time)
    {k : Int × Int} (hk : qw k) (h1 : k.1 = 1 → (n.data k.2).getD Sec.zero = (W.all k.2).s) : yg n hok hf k = wx W k := by
  have hats : ∀ f : Int → Int × Int, (∀ j : Nat, j < 32 → qw (f j)) → Ym n f = y5 W f := fun f hf => List.map_congr_left fun j hj => hat _ (hf j (List.mem_range.1 hj))
  unfold yg wx
  rcases wL hk with ⟨i, hi, rfl⟩ | rfl | rfl | rfl | ⟨j, hj, rfl⟩
  · rw [if_pos rfl, if_pos rfl]; exact h1 rfl
  · rw [if_neg (by decide), if_neg (by decide), if_neg (by decide), if_neg (by decide), if_neg (by decide), if_neg (by decide), if_neg (by decide), if_neg (by decide)]
    refine inoS_eq _ ?_
    unfold Yl jR
    rw [hn, hv, hkd, hsz, ht, show atN n (3, 0) = W.sg.at_ from hat (3, 0) zT, show atN n (4, 0) = W.db.at_ from hat (4, 0) zX]
    congr 1
    refine List.map_congr_left fun j hj => hat _ (y3 ?_)
    have := List.mem_range.1 hj
    exact ⟨by omega, by omega⟩
  · rw [if_neg (by decide), if_neg (by decide), if_pos rfl, if_neg (by decide), if_neg (by decide), if_pos rfl]
    exact Jq _ (hats _ xi)
  · rw [if_neg (by decide), if_neg (by decide), if_neg (by decide), if_pos rfl, if_neg (by decide), if_neg (by decide), if_neg (by decide), if_pos rfl]
    exact Jq _ (hats _ xK)
  · rw [if_neg (by simp), if_pos rfl, if_neg (by simp), if_pos rfl]
    exact Jq _ (hats _ (xh hj))
theorem allParts_nodup : allParts.Nodup := allParts_sorted.imp (fun {a b} h e => by subst e; exact Yf a h)
theorem pend_nodup (W : RS) : (zl W).Nodup := by classical rw [ZY]; exact allParts_nodup.sublist List.filter_sublist
theorem JV (W : RS) {k : Int × Int} (hk : qw k) : qn (ZO W) k = qn W k := by
  rcases wL hk with ⟨i, hi, rfl⟩ | rfl | rfl | rfl | ⟨j, hj, rfl⟩
  · rfl
  · rfl
  · rfl
  · rfl
  · rw [kf, kf]
    show (lvT W 32 j).at_ = _
    unfold lvT; split <;> rfl
theorem YM (W : RS) {k : Int × Int} (hk : qw k) (h1 : k.1 ≠ 1) : zD (ZO W) k = false := by
  rcases wL hk with ⟨i, hi, rfl⟩ | rfl | rfl | rfl | ⟨j, hj, rfl⟩
  · exact absurd rfl h1
  · rfl
  · rfl
  · rfl
  · unfold zD; rw [if_pos rfl]
    show (lvT W 32 j).stale = _
    unfold lvT; rw [if_pos (by omega)]
theorem XX {W : RS} (hf : ∀ i, InB i → (W.all i).fresh = false) (hs : ∀ k, qw k → k.1 ≠ 1 → zD W k = false) {k : Int × Int} (hk : qw k) : ¬ prR W k := by
  have hfr : ∀ q, ¬ frB W q := fun q ⟨i, hi, h, _⟩ => by rw [hf i hi] at h; cases h
  have hch : ∀ q, qw q → q.1 ≠ 1 → ¬ chB W q := fun q hq h1 h => h.elim (fun e => by rw [hs q hq h1] at e; cases e) (hfr q)
  have hcl : ¬ chL W := fun ⟨j, h0, h1, h2⟩ => hch _ (zz ⟨h0, h1⟩) (by simp) h2
  unfold prR
  rcases wL hk with ⟨i, hi, rfl⟩ | rfl | rfl | rfl | ⟨j, hj, rfl⟩
  · rw [if_pos rfl, hf i hi]; simp
  · rw [if_neg (by decide), if_neg (by decide), if_neg (by decide), if_neg (by decide), hs _ y2 (by decide), hs _ zT (by decide), hs _ zX (by decide)]
    rintro (⟨i, hi, h⟩ | h | h | h | h)
    · rw [hf i hi] at h; cases h
    · cases h
    · cases h
    · cases h
    · exact hcl h
  · rw [if_neg (by decide), if_neg (by decide), if_pos rfl]; exact fun h => hch _ zT (by decide) h.1
  · rw [if_neg (by decide), if_neg (by decide), if_neg (by decide), if_pos rfl, hs _ zX (by decide)]
    rintro ⟨h | h, -⟩
    · cases h
    · exact hcl h
  · rw [if_neg (by simp), if_pos rfl]; exact fun h => hch _ (zz hj) (by simp) h.1
theorem VI {W : RS} (h : ¬ prR W (2, 0)) : (∀ i, InB i → (W.all i).fresh = false) ∧ ∀ k, qw k → k.1 ≠ 1 → zD W k = false := by
  unfold prR at h
  rw [if_neg (by decide), if_neg (by decide), if_neg (by decide), if_neg (by decide)] at h
  constructor
  · intro i hi
    cases e : (W.all i).fresh with
    | false => rfl
    | true => exact absurd (.inl ⟨i, hi, e⟩) h
  · intro k hk h1
    cases e : zD W k with
    | false => rfl
    | true =>
      rcases wL hk with ⟨i, hi, rfl⟩ | rfl | rfl | rfl | ⟨j, hj, rfl⟩
      · exact absurd rfl h1
      · exact absurd (.inr (.inl e)) h
      · exact absurd (.inr (.inr (.inl e))) h
      · exact absurd (.inr (.inr (.inr (.inl e)))) h
      · exact absurd (.inr (.inr (.inr (.inr ⟨j, hj.1, hj.2, .inl e⟩)))) h
theorem KC {f : Int × Int → Sec} : ∀ (l : List ((Int × Int) × Int)) (D : Int → Option Sec) (a : Int), (∀ p ∈ l, p.2 ≠ a) → xc f D l a = D a := by
  intro l
  induction l with
  | nil => intro D a _; rfl
  | cons p l ih =>
    intro D a h
    unfold xc at ih ⊢
    rw [List.foldl_cons, ih _ _ (fun q hq => h q (by simp [hq])), wb _ _ (Ne.symm (h p (by simp)))]
theorem putDs_at {f : Int × Int → Sec} : ∀ (l : List ((Int × Int) × Int)) (D : Int → Option Sec) (k : Int × Int) (a : Int), l.Pairwise (fun p q => p.2 ≠ q.2) → (k, a) ∈ l → xc f D l a = some (f k) := by
  intro l
  induction l with
  | nil => intro D k a _ h; cases h
  | cons p l ih =>
    intro D k a hp h
    have hp' := List.pairwise_cons.1 hp
    rcases List.mem_cons.1 h with rfl | h
    · have := KC (f := f) l (upd D a (some (f k))) a (fun q hq => Ne.symm (hp'.1 q hq))
      unfold xc at this ⊢
      rw [List.foldl_cons, this, zQ]
    · have := ih (upd D p.2 (some (f p.1))) k a hp'.2 h
      unfold xc at this ⊢
      rw [List.foldl_cons, this]
theorem Ww {l : List Int} : ∀ (D : Int → Option Sec) (a : Int), a ∉ l → QO D l a = D a := by
  induction l with
  | nil => intro D a _; rfl
  | cons g l ih =>
    intro D a h
    unfold QO at ih ⊢
    rw [List.foldl_cons, ih _ _ (fun hm => h (by simp [hm])), wb _ _ (fun e => h (by simp [e]))]
theorem delDs_mem {l : List Int} : ∀ (D : Int → Option Sec) (a : Int), a ∈ l → QO D l a = none := by
  induction l with
  | nil => intro D a h; cases h
  | cons g l ih =>
    intro D a h
    by_cases hm : a ∈ l
    · have := ih (upd D g none) a hm
      unfold QO at this ⊢
      rw [List.foldl_cons, this]
    · have hg : a = g := by rcases List.mem_cons.1 h with e | e
                            · exact e
                            · exact absurd e hm
      have := Ww (l := l) (upd D g none) a hm
      unfold QO at this ⊢
      rw [List.foldl_cons, this, hg, zQ]
theorem mem_srt {l : List Int} {a : Int} : a ∈ srt l ↔ a ∈ l := (List.mergeSort_perm l _).mem_iff
theorem mem_nz {l : List Int} {a : Int} : a ∈ nz l ↔ a ∈ l ∧ a ≠ 0 := by unfold nz; rw [List.mem_filter, decide_eq_true_eq]
section
variable {n : NS} {W : RS} {D : Int → Option Sec} {nx : Int}
theorem Kf (h : Cpl n W) (hI : Inv W D nx) {l : List (Int × Int)} {ats : List Int} (hl : zl W = l) (hats : ats = jJ nx l.length) (hnx : nx + l.length ≤ 65536) (hr : ∀ a ∈ ats, 1 ≤ a ∧ a ≤ 65535) :
    Cpl (xo n ats) (zA W ats) ∧ ROk (yo W ats) ∧ srt (xU n ats) = srt (xS W ats) ∧
    (∀ (hok : NOk n) (hfl : NFl n), ∀ k ∈ l, yg (Wa n ats) (xk hok hr) (W7 hfl ats) k = wx (yo W ats) k) := by
  have hlp : ∀ k ∈ l, qw k := fun k hk => ZI (hl ▸ hk)
  have hal : ats.length = l.length := by rw [hats, Wz]
  have hpp : yO n = l := (h.parts hI.has).trans hl
  have hc := cm_cpl l ats n.at_ n.gone W W.gone hlp h.at_ h.gone
  have hnm := WE l ats (W, W.gone)
  have hmid : yo W ats = (zI l ats (W, W.gone)).1 := by unfold yo; rw [hl]
  have hmn : Wa n ats = { n with at_ := (kS l ats (n.at_, n.gone)).1 } := by unfold Wa; rw [hpp]
  have hat : ∀ k, qw k → ((Wa n ats).at_ k).getD 0 = qn (yo W ats) k := by rw [hmid, hmn]; exact hc.1
  have hblk := fun i => VY l ats (W, W.gone) i hal.symm
  have hfr : ∀ i, InB i → ((yo W ats).all i).fresh = false := by
    intro i hi
    cases e : ((yo W ats).all i).fresh with
    | false => rfl
    | true =>
      rw [hmid] at e
      have := (hblk i).2.2.1 e
      exact absurd (by rw [← hl]; exact (Q0 W _).2 ⟨y3 hi, ko.2 this.1⟩) this.2
  have hmok := xk h.ok hr
  refine ⟨?_, ?_, ?_, ?_⟩
  · have hcn : xo n ats = { Wa n ats with data := fun _ => none, stale := fun _ => none, gone := [] } := rfl
    have hcok := commitN_ok h.ok hr
    refine ⟨?_, ?_, ?_, ?_, ?_, fun k hk => ?_, fun i hi => ?_, fun k hk h1 => ?_, fun i => rfl, List.Perm.refl _, hcok⟩
    · show n.num = _; rw [show (zA W ats).num = (yo W ats).num from rfl, hmid, hnm.1]; exact h.num
    · show n.ver = _; rw [show (zA W ats).ver = (yo W ats).ver from rfl, hmid, hnm.2.1]; exact h.ver
    · show n.kind = _; rw [show (zA W ats).kind = (yo W ats).kind from rfl, hmid, hnm.2.2.1]; exact h.kind
    · show n.size = _; rw [show (zA W ats).size = (yo W ats).size from rfl, hmid, hnm.2.2.2.1]; exact h.size
    · show n.time = _; rw [show (zA W ats).time = (yo W ats).time from rfl, hmid, hnm.2.2.2.2]; exact h.time
    · show ((Wa n ats).at_ k).getD 0 = _; rw [hat k hk]; exact (JV _ hk).symm
    · show none = _
      rw [show (zA W ats).all = (yo W ats).all from rfl, hfr i hi]; rfl
    · show none ≠ none ↔ _
      rw [show zA W ats = ZO (yo W ats) from rfl, YM _ hk h1]; simp
  · refine ⟨?_, ?_, ?_, ?_, ?_, fun k hk => ?_⟩
    · rw [hmid, hnm.1]; dsimp only; rw [hI.num]; omega
    · rw [hmid, hnm.2.1]; dsimp only; rw [hI.ver]; omega
    · rw [hmid, hnm.2.2.1]; exact hI.kind
    · rw [hmid, hnm.2.2.2.1]; exact hI.size
    · rw [hmid, hnm.2.2.2.2]; exact hI.time
    · rw [← hat k hk]; exact X6 hmok k
  · unfold xU xS
    rw [hpp, hl]; exact XM hc.2
  · intro hok hfl k hk
    refine sector_eq _ _ hat ?_ ?_ ?_ ?_ ?_ (hlp k hk) (fun h1 => ?_)
    · show n.num = _; rw [hmid, hnm.1]; exact h.num
    · show n.ver = _; rw [hmid, hnm.2.1]; exact h.ver
    · show n.kind = _; rw [hmid, hnm.2.2.1]; exact h.kind
    · show n.size = _; rw [hmid, hnm.2.2.2.1]; exact h.size
    · show n.time = _; rw [hmid, hnm.2.2.2.2]; exact h.time
    · show (n.data k.2).getD _ = _
      have hkp := (Q0 W k).1 (hl ▸ hk)
      obtain ⟨i, hi, rfl⟩ : ∃ i, InB i ∧ k = (1, i) := by
        rcases wL hkp.1 with e | rfl | rfl | rfl | ⟨j, hj, rfl⟩
        · exact e
        · exact absurd h1 (by decide)
        · exact absurd h1 (by decide)
        · exact absurd h1 (by decide)
        · exact absurd h1 (by simp)
      rw [h.data i hi, if_pos (ko.1 hkp.2), hmid, (hblk i).2.1]; rfl
theorem Ke (hI : Inv W D nx) {l : List (Int × Int)} {ats : List Int} (hl : zl W = l) (hats : ats = jJ nx l.length) :
    Inv (zA W ats) (QO (xc (wx (yo W ats)) D (l.zip ats)) (srt (xS W ats))) (nx + l.length) ∧ (∀ k, qw k → ¬ prR (zA W ats) k) ∧ (∀ k, qw k → (k.1 ≠ 1 → k.1 ≠ 2 → jQ W k) → (k.1 = 1 → (W.all k.2).has = true) → qn (zA W ats) k ≠ 0) ∧ (zA W ats).gone = [] ∧ (∀ i, ((zA W ats).all i).has = (W.all i).has ∧ ((zA W ats).all i).s = (W.all i).s) := by
  have hnx := hI.nx
  have hlp : ∀ k ∈ l, qw k := fun k hk => ZI (hl ▸ hk)
  have hlm : ∀ k, k ∈ l ↔ qw k ∧ prR W k := fun k => by rw [← hl]; exact Q0 W k
  have hal : ats.length = l.length := by rw [hats, Wz]
  have hatg : ∀ i : Nat, i < l.length → ats[i]? = some (nx + i) := fun i hi => by rw [hats]; exact JY nx hi
  have hnm := WE l ats (W, W.gone)
  have hmid : yo W ats = (zI l ats (W, W.gone)).1 := by unfold yo; rw [hl]
  obtain ⟨hin, hout, hdd⟩ := cmR_in l ats (W, W.gone) hlp (hl ▸ pend_nodup W) hal.symm
  have hdead : xS W ats = W.gone ++ nz (l.map (qn W)) := by unfold xS; rw [hl]; exact hdd
  rw [← hmid] at hin hout hnm
  have hblk : ∀ i, ((yo W ats).all i).has = (W.all i).has ∧ ((yo W ats).all i).s = (W.all i).s ∧ (((yo W ats).all i).fresh = true ↔ ((W.all i).fresh = true ∧ (1, i) ∉ l)) := by
    intro i; have := VY l ats (W, W.gone) i hal.symm; rw [← hmid] at this; exact this
  have hfr : ∀ i, InB i → ((yo W ats).all i).fresh = false := by
    intro i hi
    cases e : ((yo W ats).all i).fresh with
    | false => rfl
    | true =>
      have := (hblk i).2.2.1 e
      exact absurd ((hlm _).2 ⟨y3 hi, ko.2 this.1⟩) this.2
  have hnew : ∀ k ∈ l, ∃ i : Nat, i < l.length ∧ l[i]? = some k ∧ qn (yo W ats) k = nx + i := by
    intro k hk
    obtain ⟨i, hi⟩ := List.mem_iff_getElem?.1 hk
    have hlt := (List.getElem?_eq_some_iff.1 hi).1
    exact ⟨i, hlt, hi, hin i k _ hi (hatg i hlt)⟩
  have hold : ∀ k, qw k → k ∉ l → qn (yo W ats) k = qn W k := hout
  have hC : ∀ k, qw k → qn (zA W ats) k = qn (yo W ats) k := fun k hk => JV _ hk
  have hpr : ∀ k, qw k → ¬ prR (zA W ats) k := fun k hk => XX (W := zA W ats) (fun i hi => hfr i hi) (fun q hq h1 => YM (yo W ats) hq h1) hk
  have hkb : ∀ k, jQ (zA W ats) k ↔ jQ W k := Xc (fun i hi => (hblk i).1)
  have hplace : ∀ k, qw k → (k.1 ≠ 1 → k.1 ≠ 2 → jQ W k) → (k.1 = 1 → (W.all k.2).has = true) → qn (zA W ats) k ≠ 0 := by
    intro k hk h1 h2
    rw [hC k hk]
    by_cases hm : k ∈ l
    · obtain ⟨i, -, -, e⟩ := hnew k hm
      rw [e]; omega
    · rw [hold k hk hm]
      have hnp : ¬ prR W k := fun e => hm ((hlm k).2 ⟨hk, e⟩)
      by_cases e1 : k.1 = 1
      · rcases wL hk with ⟨i, hi, rfl⟩ | rfl | rfl | rfl | ⟨j, hj, rfl⟩
        · exact ((hI.has i hi).1 (h2 rfl)).resolve_left (fun e => hnp (ko.2 e))
        · exact absurd e1 (by decide)
        · exact absurd e1 (by decide)
        · exact absurd e1 (by decide)
        · exact absurd e1 (by simp)
      · exact (hI.place k hk e1 (h1 e1)).resolve_right hnp
  have hdm : ∀ a, a ∈ srt (xS W ats) ↔ (a ∈ W.gone ∨ ∃ k ∈ l, qn W k = a ∧ a ≠ 0) := by
    intro a
    rw [mem_srt, hdead, List.mem_append, mem_nz, List.mem_map]
    refine or_congr Iff.rfl ⟨?_, ?_⟩
    · rintro ⟨⟨k, hk, e⟩, h0⟩; exact ⟨k, hk, e, h0⟩
    · rintro ⟨k, hk, e, h0⟩; exact ⟨⟨k, hk, e⟩, h0⟩
  have hdlt : ∀ a ∈ srt (xS W ats), a < nx := by
    intro a ha
    rcases (hdm a).1 ha with h | ⟨k, hk, e, h0⟩
    · exact (hI.rngG a h).2
    · have := hI.rngA k (hlp k hk) (by rw [e]; exact h0); rw [e] at this; exact this.2
  have hzip : ∀ p ∈ l.zip ats, ∃ i : Nat, i < l.length ∧ l[i]? = some p.1 ∧ p.2 = nx + i := by
    intro p hp
    obtain ⟨i, hi⟩ := List.mem_iff_getElem?.1 hp
    rw [List.getElem?_zip_eq_some] at hi
    have hlt := (List.getElem?_eq_some_iff.1 hi.1).1
    refine ⟨i, hlt, hi.1, ?_⟩
    have := hi.2; rw [hatg i hlt] at this; exact (Option.some.inj this).symm
  have hzp : (l.zip ats).Pairwise (fun p q => p.2 ≠ q.2) := by
    rw [List.pairwise_iff_getElem]
    intro i j hi hj hij
    rw [List.length_zip] at hi hj
    rw [List.getElem_zip, List.getElem_zip]
    dsimp only
    have e1 := hatg i (by omega)
    have e2 := hatg j (by omega)
    rw [List.getElem?_eq_getElem (by omega)] at e1 e2
    rw [Option.some.inj e1, Option.some.inj e2]; omega
  have hsecS : ∀ k, qw k → wx (zA W ats) k = wx (yo W ats) k := fun k hk => sectorR_ext hC (fun i _ => rfl) rfl rfl rfl rfl rfl hk
  have hdisk : ∀ k, qw k → qn (zA W ats) k ≠ 0 → QO (xc (wx (yo W ats)) D (l.zip ats)) (srt (xS W ats)) (qn (zA W ats) k) = some (wx (zA W ats) k) := by
    intro k hk h0
    rw [hsecS k hk]
    rw [hC k hk] at h0 ⊢
    by_cases hm : k ∈ l
    · obtain ⟨i, hlt, hki, e⟩ := hnew k hm
      rw [e, Ww _ _ (fun hd => by have := hdlt _ hd; omega)]
      refine putDs_at _ _ _ _ hzp ?_
      exact List.mem_of_getElem? (i := i) (by rw [List.getElem?_zip_eq_some]; exact ⟨hki, hatg i hlt⟩)
    · rw [hold k hk hm] at h0 ⊢
      have hnp : ¬ prR W k := fun e => hm ((hlm k).2 ⟨hk, e⟩)
      have hlt := (hI.rngA k hk h0).2
      rw [Ww _ _ (fun hd => ?_), KC _ _ _ (fun p hp => ?_), hI.disk k hk h0 hnp]
      · congr 1
        rcases wL hk with ⟨i, hi, rfl⟩ | rfl | rfl | rfl | ⟨j, hj, rfl⟩
        · rw [yc, yc, (hblk i).2.1]
        · have hnone := VI hnp
          refine (xe (fun q hq => hold q hq (fun hq2 => ?_)) hnm.1 hnm.2.1 hnm.2.2.1 hnm.2.2.2.1 hnm.2.2.2.2).symm
          exact XX hnone.1 hnone.2 hq ((hlm q).1 hq2).2
        · have hkid := hI.kid _ zT (by decide) (by decide) (.inl h0)
          unfold prR at hnp; rw [if_neg (by decide), if_neg (by decide), if_pos rfl] at hnp
          have hnf : ∀ i, InB i → ww i = (3, 0) → (W.all i).fresh = false := fun i hi ha => by
            cases e : (W.all i).fresh with
            | false => rfl
            | true => exact absurd ⟨.inr ⟨i, hi, e, ha⟩, hkid⟩ hnp
          have : y5 (yo W ats) (zP 1 0) = y5 W (zP 1 0) := by
            unfold y5
            refine List.map_congr_left fun j hj => ?_
            have hj := List.mem_range.1 hj
            refine hold _ (xi j hj) (fun hm2 => ?_)
            have hp2 := ((hlm _).1 hm2).2
            unfold zP at hp2
            rw [if_neg (by decide), if_pos rfl, ko] at hp2
            rw [hnf (8 + 0 * 32 + j) ⟨by omega, by omega⟩ (Wl.2 (by unfold wG; rw [if_neg (by omega), if_neg (by omega), if_pos (by omega)]))] at hp2
            cases hp2
          unfold wx
          rw [if_neg (by decide), if_neg (by decide), if_pos rfl, if_neg (by decide), if_neg (by decide), if_pos rfl, this]
        · have hkid := hI.kid _ zX (by decide) (by decide) (.inl h0)
          unfold prR at hnp; rw [if_neg (by decide), if_neg (by decide), if_neg (by decide), if_pos rfl] at hnp
          have : y5 (yo W ats) (fun j => (5, j)) = y5 W (fun j => (5, j)) := by
            unfold y5
            refine List.map_congr_left fun j hj => ?_
            have hj := List.mem_range.1 hj
            refine hold _ (xK j hj) (fun hm2 => ?_)
            have hp2 := ((hlm _).1 hm2).2
            unfold prR at hp2
            rw [if_neg (by simp), if_pos rfl] at hp2
            exact hnp ⟨.inr ⟨j, by omega, by omega, hp2.1⟩, hkid⟩
          unfold wx
          rw [if_neg (by decide), if_neg (by decide), if_neg (by decide), if_pos rfl, if_neg (by decide), if_neg (by decide), if_neg (by decide), if_pos rfl, this]
        · have hkid := hI.kid _ (zz hj) (by simp) (by simp) (.inl h0)
          unfold prR at hnp; rw [if_neg (by simp), if_pos rfl] at hnp
          have hnf : ∀ i, InB i → ww i = (5, j) → (W.all i).fresh = false := fun i hi ha => by
            cases e : (W.all i).fresh with
            | false => rfl
            | true => exact absurd ⟨.inr ⟨i, hi, e, ha⟩, hkid⟩ hnp
          have : y5 (yo W ats) (zP 2 j) = y5 W (zP 2 j) := by
            unfold y5
            refine List.map_congr_left fun m hm3 => ?_
            have hm3 := List.mem_range.1 hm3
            refine hold _ (xh hj m hm3) (fun hm2 => ?_)
            have hp2 := ((hlm _).1 hm2).2
            unfold zP at hp2
            rw [if_neg (by decide), if_neg (by decide), ko] at hp2
            rw [hnf (40 + j * 32 + m) ⟨by omega, by omega⟩ (WJ.2 (by unfold wG; rw [if_neg (by omega), if_neg (by omega), if_neg (by omega), if_pos (by omega)]; exact ⟨rfl, by dsimp only; omega⟩))] at hp2
            cases hp2
          unfold wx
          rw [if_neg (by simp), if_pos rfl, if_neg (by simp), if_pos rfl]
          exact congrArg Z9 this.symm
      · obtain ⟨i, -, -, e⟩ := hzip p hp
        omega
      · rcases (hdm _).1 hd with hg | ⟨q, hq, e, -⟩
        · exact hI.gdj _ hg k hk rfl
        · exact hm (by rw [hI.inj k q hk (hlp q hq) h0 e.symm]; exact hq)
  refine ⟨⟨?_, ?_, ?_, ?_, ?_, ?_, ?_, ?_, ?_, ?_, ?_, ?_, ?_, ?_, ?_, ?_, ?_, ?_, ?_⟩, hpr, hplace, rfl, fun i => ⟨(hblk i).1, (hblk i).2.1⟩⟩
  · intro i hi
    rw [show ((zA W ats).all i) = (yo W ats).all i from rfl, (hblk i).1, hfr i hi]
    have hwi : ((yo W ats).all i).at_ = qn (zA W ats) (1, i) := by rw [hC _ (y3 hi)]; rfl
    constructor
    · intro hh
      right; rw [hwi]
      exact hplace (1, i) (y3 hi) (fun e => absurd rfl e) (fun _ => hh)
    · rintro (e | e)
      · cases e
      · rw [hI.has i hi]
        by_cases hm : (1, i) ∈ l
        · exact .inl (ko.1 ((hlm _).1 hm).2)
        · right
          rw [hwi, hC _ (y3 hi), hold _ (y3 hi) hm] at e; exact e
  · intro i hi hh
    rw [show ((zA W ats).all i) = (yo W ats).all i from rfl, (hblk i).2.1]
    rw [show ((zA W ats).all i) = (yo W ats).all i from rfl, (hblk i).1] at hh
    exact hI.hole i hi hh
  · intro k hk h1 h2 hh
    rw [hkb]
    rcases hh with hh | hh
    · rw [hC k hk] at hh
      by_cases hm : k ∈ l
      · have hp := ((hlm k).1 hm).2
        unfold prR at hp
        rw [if_neg h1] at hp
        rcases wL hk with ⟨i, hi, rfl⟩ | rfl | rfl | rfl | ⟨j, hj, rfl⟩
        · exact absurd rfl h1
        · exact absurd rfl h2
        · rw [if_neg (by decide), if_pos rfl] at hp; exact hp.2
        · rw [if_neg (by decide), if_neg (by decide), if_pos rfl] at hp; exact hp.2
        · rw [if_pos rfl] at hp; exact hp.2
      · rw [hold k hk hm] at hh; exact hI.kid k hk h1 h2 (.inl hh)
    · rw [show zA W ats = ZO (yo W ats) from rfl, YM _ hk h1] at hh; cases hh
  · intro k hk h1 hh
    left
    exact hplace k hk (fun _ h2 => (hkb k).1 (hh h2)) (fun e => absurd e h1)
  · intro k hk h0
    rw [hC k hk] at h0 ⊢
    by_cases hm : k ∈ l
    · obtain ⟨i, hlt, -, e⟩ := hnew k hm; rw [e]; omega
    · rw [hold k hk hm] at h0 ⊢; have := hI.rngA k hk h0; omega
  · intro a ha; cases ha
  · intro k q hk hq h0 e
    rw [hC k hk] at h0 e; rw [hC q hq] at e
    by_cases hm : k ∈ l
    · obtain ⟨i, hlt, hki, ei⟩ := hnew k hm
      by_cases hm2 : q ∈ l
      · obtain ⟨j, hlt2, hqj, ej⟩ := hnew q hm2
        obtain rfl : i = j := by omega
        rw [hki] at hqj; exact Option.some.inj hqj
      · rw [hold q hq hm2] at e
        by_cases hz : qn W q = 0
        · omega
        · have := hI.rngA q hq hz; omega
    · by_cases hm2 : q ∈ l
      · obtain ⟨j, hlt2, hqj, ej⟩ := hnew q hm2
        rw [hold k hk hm] at h0 e
        have := hI.rngA k hk h0; omega
      · rw [hold k hk hm] at h0 e; rw [hold q hq hm2] at e; exact hI.inj k q hk hq h0 e
  · exact List.nodup_nil
  · intro a ha; cases ha
  · intro k hk h0 _; exact hdisk k hk h0
  · intro a
    constructor
    · intro hne
      right
      by_cases hd : a ∈ srt (xS W ats)
      · rw [delDs_mem _ _ hd] at hne; exact absurd rfl hne
      · rw [Ww _ _ hd] at hne
        by_cases hz : ∃ p ∈ l.zip ats, p.2 = a
        · obtain ⟨p, hp, e⟩ := hz
          obtain ⟨i, hlt, hpi, e2⟩ := hzip p hp
          have hpm := List.mem_of_getElem? hpi
          refine ⟨p.1, hlp _ hpm, ?_, by omega⟩
          rw [hC _ (hlp _ hpm), hin i p.1 _ hpi (hatg i hlt), ← e, e2]
        · rw [KC _ _ _ (fun p hp e => hz ⟨p, hp, e⟩)] at hne
          rcases (hI.keys a).1 hne with hg | ⟨k, hk, e, h0⟩
          · exact absurd ((hdm a).2 (.inl hg)) hd
          · by_cases hm : k ∈ l
            · exact absurd ((hdm a).2 (.inr ⟨k, hm, e, h0⟩)) hd
            · exact ⟨k, hk, by rw [hC k hk, hold k hk hm, e], h0⟩
    · rintro (hg | ⟨k, hk, e, h0⟩)
      · cases hg
      · rw [← e, hdisk k hk (by rw [e]; exact h0)]; simp
  · intro hg; exact absurd rfl hg
  · intro i hi j hj hle
    rw [show ((zA W ats).all i) = (yo W ats).all i from rfl, (hblk i).2.1]
    exact hI.zero i hi j hj (by rw [show (zA W ats).size = (yo W ats).size from rfl, hnm.2.2.2.1] at hle; exact hle)
  · rw [show (zA W ats).num = (yo W ats).num from rfl, hnm.1]; exact hI.num
  · rw [show (zA W ats).ver = (yo W ats).ver from rfl, hnm.2.1]; exact hI.ver
  · rw [show (zA W ats).kind = (yo W ats).kind from rfl, hnm.2.2.1]; exact hI.kind
  · rw [show (zA W ats).size = (yo W ats).size from rfl, hnm.2.2.2.1]; exact hI.size
  · rw [show (zA W ats).time = (yo W ats).time from rfl, hnm.2.2.2.2]; exact hI.time
  · omega
end
theorem ZH (W : RS) : ∀ (xs : List Int) (b : Int) (f : Int × Int → Option Int), (∀ (j : Nat) x, xs[j]? = some x → x = qn W (1, b + j)) →
    ∀ k, jn xs b f k = if k.1 = 1 ∧ b ≤ k.2 ∧ k.2 < b + xs.length ∧ qn W k ≠ 0 then some (qn W k) else f k := by
  intro xs
  induction xs with
  | nil => intro b f _ k; rw [if_neg (by rintro ⟨-, h1, h2, -⟩; simp at h2; omega)]; rfl
  | cons x xs ih =>
    intro b f h k
    have hx : x = qn W (1, b) := by have := h 0 x rfl; simpa using this
    unfold jn
    rw [ih (b + 1) _ (fun j y hy => by rw [h (j + 1) y (by simpa using hy)]; congr 2; push_cast; omega) k]
    have hlen : ((x :: xs).length : Int) = xs.length + 1 := by simp
    rw [hlen]
    by_cases h1 : k.1 = 1 ∧ b + 1 ≤ k.2 ∧ k.2 < b + 1 + xs.length ∧ qn W k ≠ 0
    · rw [if_pos h1, if_pos ⟨h1.1, by omega, by omega, h1.2.2.2⟩]
    · rw [if_neg h1]
      by_cases hk : k = (1, b)
      · subst hk
        rw [← hx]
        by_cases e : x = 0
        · rw [if_neg (by simpa using e), if_neg (fun h => h.2.2.2 e)]
        · rw [if_pos e, zQ, if_pos ⟨rfl, Int.le_refl _, by dsimp only; omega, e⟩]
      · have hne : ¬ (k.1 = 1 ∧ b ≤ k.2 ∧ k.2 < b + (xs.length + 1) ∧ qn W k ≠ 0) := by
          rintro ⟨a1, a2, a3, a4⟩
          by_cases e : k.2 = b
          · exact hk (Prod.ext a1 e)
          · exact h1 ⟨a1, by omega, by omega, a4⟩
        rw [if_neg hne]
        split
        · rw [wb _ _ hk]
        · rfl
theorem J4 (W : RS) (q : Int × Int) (f : Int × Int → Option Int) (k : Int × Int) : XV q (qn W q) f k = if k = q ∧ qn W k ≠ 0 then some (qn W k) else f k := by
  unfold XV
  by_cases e : qn W q = 0
  · rw [if_pos e, if_neg (by rintro ⟨rfl, h⟩; exact h e)]
  · rw [if_neg e]
    by_cases hk : k = q
    · subst hk; rw [zQ, if_pos ⟨rfl, e⟩]
    · rw [wb _ _ hk, if_neg (fun h => hk h.1)]
theorem leafF_spec (W : RS) (l2 : List Int) (ll : Nat → List Int) (f : Int × Int → Option Int) (h2 : ∀ j : Nat, j < 32 → l2.getD j 0 = qn W (5, j)) (hl : ∀ j : Nat, j < 32 → ll j = y5 W (zP 2 j)) :
    ∀ m : Nat, m ≤ 32 → ∀ k, Wd l2 ll m f k = if (k.1 = 5 ∧ 0 ≤ k.2 ∧ k.2 < m ∧ qn W k ≠ 0) ∨ (k.1 = 1 ∧ 40 ≤ k.2 ∧ k.2 < 40 + 32 * m ∧ qn W k ≠ 0) then some (qn W k) else f k := by
  intro m
  induction m with
  | zero => intro _ k; rw [if_neg (by rintro (⟨-, h1, h2, -⟩ | ⟨-, h1, h2, -⟩) <;> omega)]; rfl
  | succ m ih =>
    intro hm k
    unfold Wd
    rw [ZH W (ll m) (yx 2 m) _ (fun j x hx => by
      rw [hl m (by omega)] at hx
      have hj : j < 32 := by have := (List.getElem?_eq_some_iff.1 hx).1; simpa [y5] using this
      rw [Qp W _ hj] at hx
      rw [← Option.some.inj hx]; unfold zP yx; rfl) k]
    have hbl : yx 2 (m : Int) = 40 + m * 32 := by unfold yx; rw [if_neg (by decide), if_neg (by decide)]
    have hll : (ll m).length = 32 := by rw [hl m (by omega)]; simp [y5]
    rw [hbl, hll, h2 m (by omega)]
    by_cases c1 : k.1 = 1 ∧ 40 + (m : Int) * 32 ≤ k.2 ∧ k.2 < 40 + (m : Int) * 32 + (32 : Nat) ∧ qn W k ≠ 0
    · rw [if_pos c1, if_pos (.inr ⟨c1.1, by omega, by push_cast at c1 ⊢; omega, c1.2.2.2⟩)]
    · rw [if_neg c1]
      have ih' := ih (by omega) k
      have key : (if qn W (5, (m : Int)) = 0 then Wd l2 ll m f else upd (Wd l2 ll m f) (5, (m : Int)) (some (qn W (5, (m : Int))))) k = if k = (5, (m : Int)) ∧ qn W k ≠ 0 then some (qn W k) else Wd l2 ll m f k := by
        by_cases e : qn W (5, (m : Int)) = 0
        · rw [if_pos e, if_neg (by rintro ⟨rfl, h⟩; exact h e)]
        · rw [if_neg e]
          by_cases hk : k = (5, (m : Int))
          · subst hk; rw [zQ, if_pos ⟨rfl, e⟩]
          · rw [wb _ _ hk, if_neg (fun h => hk h.1)]
      rw [key, ih']
      by_cases c2 : k = (5, (m : Int)) ∧ qn W k ≠ 0
      · rw [if_pos c2, if_pos (.inl ⟨by rw [c2.1], by rw [c2.1]; dsimp only; omega, by rw [c2.1]; push_cast; (try dsimp only); omega, c2.2⟩)]
      · rw [if_neg c2]
        by_cases c3 : (k.1 = 5 ∧ 0 ≤ k.2 ∧ k.2 < m ∧ qn W k ≠ 0) ∨ (k.1 = 1 ∧ 40 ≤ k.2 ∧ k.2 < 40 + 32 * m ∧ qn W k ≠ 0)
        · rw [if_pos c3, if_pos (c3.imp (fun h => ⟨h.1, h.2.1, by push_cast; omega, h.2.2.2⟩) (fun h => ⟨h.1, h.2.1, by push_cast; omega, h.2.2.2⟩))]
        · rw [if_neg c3, if_neg]
          rintro (⟨a1, a2, a3, a4⟩ | ⟨a1, a2, a3, a4⟩)
          · by_cases e : k.2 = m
            · exact c2 ⟨Prod.ext a1 e, a4⟩
            · exact c3 (.inl ⟨a1, a2, by push_cast at a3; omega, a4⟩)
          · by_cases e : 40 + (m : Int) * 32 ≤ k.2
            · exact c1 ⟨a1, e, by push_cast at a3 ⊢; omega, a4⟩
            · exact c3 (.inr ⟨a1, a2, by omega, a4⟩)
theorem Xb (W : RS) (l2 : List Int) (ll : Nat → List Int) (h2 : ∀ j : Nat, j < 32 → l2.getD j 0 = qn W (5, j)) (hl : ∀ j : Nat, j < 32 → ll j = y5 W (zP 2 j)) (k : Int × Int) :
    YY (jR W) W.self.at_ (y5 W (zP 1 0)) l2 ll k = if (k.1 = 5 ∧ 0 ≤ k.2 ∧ k.2 < (32 : Nat) ∧ qn W k ≠ 0) ∨ (k.1 = 1 ∧ 40 ≤ k.2 ∧ k.2 < 40 + 32 * (32 : Nat) ∧ qn W k ≠ 0) then some (qn W k) else
      if k = (4, 0) ∧ qn W k ≠ 0 then some (qn W k) else if k.1 = 1 ∧ 8 ≤ k.2 ∧ k.2 < 40 ∧ qn W k ≠ 0 then some (qn W k) else
      if k = (3, 0) ∧ qn W k ≠ 0 then some (qn W k) else if k.1 = 1 ∧ 0 ≤ k.2 ∧ k.2 < 8 ∧ qn W k ≠ 0 then some (qn W k) else upd (fun _ => none) (2, 0) (some W.self.at_) k := by
  unfold YY
  rw [leafF_spec W l2 ll _ h2 hl 32 (by omega) k]
  have hdb : (jR W).db = qn W (4, 0) := rfl
  have hsg : (jR W).sg = qn W (3, 0) := rfl
  rw [hdb, J4, hsg]
  have e1 : ∀ f, jn (y5 W (zP 1 0)) (yx 1 0) f k = if k.1 = 1 ∧ 8 ≤ k.2 ∧ k.2 < 40 ∧ qn W k ≠ 0 then some (qn W k) else f k := by
    intro f
    rw [ZH W _ _ _ (fun j x hx => by
      have hj : j < 32 := by have := (List.getElem?_eq_some_iff.1 hx).1; simpa [y5] using this
      rw [Qp W _ hj] at hx
      rw [← Option.some.inj hx]; unfold zP yx; rfl) k]
    rw [show yx 1 0 = 8 from rfl, show ((y5 W (zP 1 0)).length : Int) = 32 from by simp [y5]]; rfl
  have e2 : ∀ f, jn (jR W).d (yx 0 0) f k = if k.1 = 1 ∧ 0 ≤ k.2 ∧ k.2 < 8 ∧ qn W k ≠ 0 then some (qn W k) else f k := by
    intro f
    rw [ZH W _ _ _ (fun j x hx => by
      have hj : j < 8 := by have := (List.getElem?_eq_some_iff.1 hx).1; simpa [jR] using this
      have : (jR W).d[j]? = some (qn W (1, j)) := by simp [jR, hj]
      rw [this] at hx
      rw [← Option.some.inj hx, show yx 0 0 = 0 from rfl, Int.zero_add]) k]
    rw [show yx 0 0 = 0 from rfl, show ((jR W).d.length : Int) = 8 from by simp [jR]]; rfl
  rw [e1, J4, e2]
theorem loadF_val (W : RS) (l2 : List Int) (ll : Nat → List Int) (h2 : ∀ j : Nat, j < 32 → l2.getD j 0 = qn W (5, j)) (hl : ∀ j : Nat, j < 32 → ll j = y5 W (zP 2 j)) (k : Int × Int) {v : Int}
    (h : YY (jR W) W.self.at_ (y5 W (zP 1 0)) l2 ll k = some v) : v = qn W k := by
  rw [Xb W l2 ll h2 hl k] at h
  split at h
  · exact (Option.some.inj h).symm
  split at h
  · exact (Option.some.inj h).symm
  split at h
  · exact (Option.some.inj h).symm
  split at h
  · exact (Option.some.inj h).symm
  split at h
  · exact (Option.some.inj h).symm
  by_cases e : k = (2, 0)
  · subst e; rw [zQ] at h; exact (Option.some.inj h).symm
  · rw [wb _ _ e] at h; cases h
theorem loadF_spec (W : RS) (l2 : List Int) (ll : Nat → List Int) (h0 : W.self.at_ ≠ 0) (h2 : ∀ j : Nat, j < 32 → l2.getD j 0 = qn W (5, j)) (hl : ∀ j : Nat, j < 32 → ll j = y5 W (zP 2 j)) (k : Int × Int) :
    YY (jR W) W.self.at_ (y5 W (zP 1 0)) l2 ll k ≠ none ↔ qw k ∧ qn W k ≠ 0 := by
  rw [Xb W l2 ll h2 hl k]
  have hself : qn W (2, 0) = W.self.at_ := rfl
  constructor
  · intro h
    split at h
    · rename_i c
      rcases c with ⟨a1, a2, a3, a4⟩ | ⟨a1, a2, a3, a4⟩
      · exact ⟨.inr (.inr (.inr (.inr ⟨a1, a2, by push_cast at a3; omega⟩))), a4⟩
      · exact ⟨.inl ⟨a1, by omega, by push_cast at a3; omega⟩, a4⟩
    · split at h
      · rename_i c; exact ⟨by rw [c.1]; exact zX, c.2⟩
      · split at h
        · rename_i c; exact ⟨.inl ⟨c.1, by omega, by omega⟩, c.2.2.2⟩
        · split at h
          · rename_i c; exact ⟨by rw [c.1]; exact zT, c.2⟩
          · split at h
            · rename_i c; exact ⟨.inl ⟨c.1, by omega, by omega⟩, c.2.2.2⟩
            · by_cases e : k = (2, 0)
              · subst e; exact ⟨y2, by rw [hself]; exact h0⟩
              · rw [wb _ _ e] at h; exact absurd rfl h
  · rintro ⟨hk, hne⟩
    rcases wL hk with ⟨i, hi, rfl⟩ | rfl | rfl | rfl | ⟨j, hj, rfl⟩
    · by_cases c1 : 40 ≤ i
      · rw [if_pos (.inr ⟨rfl, c1, by have := hi.2; push_cast; (try dsimp only); omega, hne⟩)]; simp
      · rw [if_neg (by rintro (⟨h, -⟩ | ⟨-, h, -⟩); · simp at h
                       · exact c1 h), if_neg (by simp)]
        by_cases c2 : 8 ≤ i
        · rw [if_pos ⟨rfl, c2, by dsimp only; omega, hne⟩]; simp
        · rw [if_neg (fun h => c2 h.2.1), if_neg (by simp), if_pos ⟨rfl, hi.1, by dsimp only; omega, hne⟩]; simp
    · rw [if_neg (by simp), if_neg (by simp), if_neg (by simp), if_neg (by simp), if_neg (by simp), zQ]; simp
    · rw [if_neg (by simp), if_neg (by simp), if_neg (by simp), if_pos ⟨rfl, hne⟩]; simp
    · rw [if_neg (by simp), if_pos ⟨rfl, hne⟩]; simp
    · rw [if_pos (.inl ⟨rfl, hj.1, by push_cast; exact hj.2, hne⟩)]; simp
theorem Xf (D : Int → Option Sec) : gS false D = D := by funext a; rfl
theorem Km {W : RS} {f : Int → Int × Int} (h : ∀ j : Nat, j < 32 → qn W (f j) = 0) : y5 W f = kL := by
  unfold y5 kL
  rw [List.eq_replicate_iff]
  refine ⟨by simp, fun x hx => ?_⟩
  obtain ⟨j, hj, rfl⟩ := List.mem_map.1 hx
  exact h j (List.mem_range.1 hj)
theorem Inv.whBd {W : RS} {D : Int → Option Sec} {nx : Int} (hI : Inv W D nx) (hnx : nx ≤ 65536) {k : Int × Int} (hk : qw k) : 0 ≤ qn W k ∧ qn W k ≤ 65535 := by
  by_cases h : qn W k = 0
  · omega
  · have := hI.rngA k hk h; omega
theorem Inv.rok {W : RS} {D : Int → Option Sec} {nx : Int} (hI : Inv W D nx) (hnx : nx ≤ 65536) : ROk W := ⟨by rw [hI.num]; omega, by rw [hI.ver]; omega, hI.kind, hI.size, hI.time, fun _ hk => hI.whBd hnx hk⟩
theorem load_cpl {W : RS} {D : Int → Option Sec} {nx : Int} (hI : Inv W D nx) (hnx : nx ≤ 65536) (hp : zl W = []) (h0 : W.self.at_ ≠ 0) :
    ∃ n', Cpl n' W ∧ ∀ (w0 : World) (F : Res) (Dc G : qV) (rv : Value), kj G → Ks rv Dc D →
      FnT Tryz.prog w0 68 #[.agg (wt ((D W.self.at_).getD Sec.zero)).toArray, .int .i64 W.self.at_, rv] (Dc :: G :: F)
        (fun v' L' => ∃ p' Cn', v' = .tuple #[.pointer (some ⟨p', 0, none⟩), .int .i64 0] ∧ NodeC p' n' Cn' ∧ L' = Cn' :: Dc :: G :: F) := by
  have hnp : ∀ k, qw k → ¬ prR W k := fun k hk h => by
    have := (Q0 W k).2 ⟨hk, h⟩; rw [hp] at this; cases this
  have hnone := VI (hnp (2, 0) y2)
  have hgone : W.gone = [] := Classical.byContradiction fun e => hnp _ y2 (ZX (hI.gone e))
  have hrok := hI.rok hnx
  have hx : (jR W).Ok := Ys hrok
  have hself : qn W (2, 0) = W.self.at_ := rfl
  have hds := hI.disk (2, 0) y2 h0 (hnp _ y2)
  rw [hself] at hds
  have hsec : wx W (2, 0) = Zd (jR W) hx := by
    unfold wx; rw [if_neg (by decide), if_neg (by decide), if_neg (by decide), if_neg (by decide), KU hx]
  have hdsk : ∀ k, qw k → qn W k ≠ 0 → D (qn W k) = some (wx W k) := fun k hk h => hI.disk k hk h (hnp k hk)
  have hblk0 : ∀ i, InB i → (W.all i).has = false → qn W (1, i) = 0 := fun i hi hh => by
    rw [yJ]
    refine Classical.byContradiction fun e => ?_
    rw [(hI.has i hi).2 (.inr e)] at hh; cases hh
  have hnok : ∀ k, qw k → k.1 ≠ 1 → k.1 ≠ 2 → qn W k = 0 → ¬ jQ W k := fun k hk h1 h2 h hkid => (hI.place k hk h1 (fun _ => hkid)).elim (fun e => e h) (hnp k hk)
  have hchild : ∀ k i, qw k → k.1 ≠ 1 → k.1 ≠ 2 → qn W k = 0 → InB i → ww i = k → qn W (1, i) = 0 := fun k i hk h1 h2 h hi ha => hblk0 i hi (by
    cases e : (W.all i).has with
    | false => rfl
    | true => exact absurd ⟨i, hi, e, .inr ha⟩ (hnok k hk h1 h2 h))
  have hab1 : ∀ j : Nat, j < 32 → InB (8 + 0 * 32 + j) ∧ ww (8 + 0 * 32 + j) = (3, 0) := fun j hj => ⟨⟨by omega, by omega⟩, Wl.2 (by unfold wG; rw [if_neg (by omega), if_neg (by omega), if_pos (by omega)])⟩
  have hab2 : ∀ (i : Int) (j : Nat), 0 ≤ i ∧ i < 32 → j < 32 → InB (40 + i * 32 + j) ∧ ww (40 + i * 32 + j) = (5, i) := fun i j hi hj => ⟨⟨by omega, by omega⟩, WJ.2 (by unfold wG; rw [if_neg (by omega), if_neg (by omega), if_neg (by omega), if_pos (by omega)]; exact ⟨rfl, by dsimp only; omega⟩)⟩
  have h10 : (jR W).sg = 0 → y5 W (zP 1 0) = kL := fun e => Km fun j hj => by
    have := hab1 j hj
    exact hchild (3, 0) _ zT (by decide) (by decide) e this.1 this.2
  have h20 : (jR W).db = 0 → y5 W (fun j => (5, j)) = kL := fun e => Km fun j hj => by
    refine Classical.byContradiction fun hne => ?_
    obtain ⟨i, hi, hh, hu⟩ := hI.kid (5, (j : Int)) (xK j hj) (by simp) (by simp) (.inl hne)
    rcases hu with ⟨hu, -⟩ | hu
    · cases hu
    · exact hnok (4, 0) zX (by decide) (by decide) e ⟨i, hi, hh, .inl ⟨rfl, by rw [hu]⟩⟩
  let l2 := y5 W (fun j => (5, j))
  let ll : Nat → List Int := fun i => if i < 32 then y5 W (zP 2 i) else kL
  have hl2 : ∀ j : Nat, j < 32 → l2.getD j 0 = qn W (5, (j : Int)) := fun j hj => by
    show (y5 W (fun j => (5, j))).getD j 0 = _
    rw [List.getD_eq_getElem?_getD, Qp W _ hj]; rfl
  have hll : ∀ j : Nat, j < 32 → ll j = y5 W (zP 2 j) := fun j hj => if_pos hj
  have hz : jY kL := ⟨by simp [kL], fun a ha => by rw [kL, List.mem_replicate] at ha; omega⟩
  have h1 : jY (y5 W (zP 1 0)) := Wy hrok xi
  have h2 : jY l2 := Wy hrok xK
  have h3 : ∀ i, jY (ll i) := fun i => by
    show jY (if i < 32 then y5 W (zP 2 i) else kL)
    split
    · exact Wy hrok (xh ⟨by omega, by omega⟩)
    · exact hz
  refine ⟨VR (jR W) W.self.at_ (y5 W (zP 1 0)) l2 ll, ?_, ?_⟩
  · have hval := fun k v => loadF_val W l2 ll hl2 hll k (v := v)
    have hiff := loadF_spec W l2 ll h0 hl2 hll
    refine ⟨rfl, rfl, rfl, rfl, rfl, fun k hk => ?_, fun i hi => ?_, fun k hk hk1 => ?_, fun i => rfl, by rw [hgone]; exact List.Perm.refl _, ⟨fun k hk => absurd rfl hk, fun k hk => ((hiff k).1 hk).1, fun k a ha => ?_, fun k hk => absurd rfl hk⟩⟩
    · show (YY _ _ _ _ _ k).getD 0 = _
      cases e : YY (jR W) W.self.at_ (y5 W (zP 1 0)) l2 ll k with
      | some v => exact hval k v e
      | none =>
        refine Classical.byContradiction fun hne => ?_
        exact (hiff k).2 ⟨hk, fun e2 => hne (by rw [e2]; rfl)⟩ e
    · rw [hnone.1 i hi]; rfl
    · show none ≠ none ↔ _
      rw [hnone.2 k hk hk1]; simp
    · have ha' : YY (jR W) W.self.at_ (y5 W (zP 1 0)) l2 ll k = some a := ha
      have hk := (hiff k).1 (by rw [ha']; simp)
      have := hI.rngA k hk.1 hk.2
      rw [hval k a ha']; omega
  · intro w0 F Dc G rv hg hr
    rw [hds, hsec]
    exact load_ok G Dc hg (jR W) hx hI.size.2 W.self.at_ rv D hr (y5 W (zP 1 0)) l2 ll h1 h10
      (fun e => by
        have := hdsk (3, 0) zT e
        rw [show (jR W).sg = qn W (3, 0) from rfl, this]
        unfold wx; rw [if_neg (by decide), if_neg (by decide), if_pos rfl, WX h1])
      h2 h20
      (fun e => by
        have := hdsk (4, 0) zX e
        rw [show (jR W).db = qn W (4, 0) from rfl, this]
        unfold wx; rw [if_neg (by decide), if_neg (by decide), if_neg (by decide), if_pos rfl]; exact congrArg some (WX h2))
      h3
      (fun i e => by
        by_cases hi : i < 32
        · rw [hll i hi]
          rw [hl2 i hi] at e
          refine Km fun j hj => ?_
          have := hab2 i j ⟨by omega, by omega⟩ hj
          exact hchild (5, (i : Int)) _ (xK i hi) (by simp) (by simp) e this.1 this.2
        · exact if_neg hi)
      (fun i hi e => by
        rw [hl2 i hi] at e ⊢
        rw [hdsk (5, (i : Int)) (xK i hi) e]
        unfold wx; rw [if_neg (by simp), if_pos rfl]
        exact congrArg some ((WX (h3 i)) ▸ (by rw [hll i hi])))
def kz (i : Int) (k : Int × Int) : Prop := (k = (4, 0) ∧ (ww i).1 = 5) ∨ ww i = k
def Z3 (W : RS) (H : Int → Prop) (k : Int × Int) : Prop := ∃ i, InB i ∧ (W.all i).has = true ∧ ¬ H i ∧ kz i k
def yT (W : RS) (H : Int → Prop) (S : Int × Int → Prop) (k : Int × Int) : Prop := (k.1 = 1 ∧ H k.2) ∨ (k.1 ≠ 1 ∧ k.1 ≠ 2 ∧ S k ∧ ¬ Z3 W H k)
def WQ (H : Int → Prop) (k : Int × Int) : Prop := ∃ i, H i ∧ (k = (2, 0) ∨ kz i k)
structure TS (W : RS) (H : Int → Prop) (S : Int × Int → Prop) (w : Int × Int → Int) (s : Int × Int → Prop) (g : List Int) : Prop where
  w0 : ∀ k, qw k → yT W H S k → w k = 0
  w1 : ∀ k, qw k → ¬ yT W H S k → w k = qn W k
  s : ∀ k, qw k → k.1 ≠ 1 → (s k ↔ ¬ yT W H S k ∧ (zD W k = true ∨ WQ H k))
  gn : g.Nodup
  gm : ∀ a, a ∈ g ↔ (a ∈ W.gone ∨ ∃ k, qw k ∧ yT W H S k ∧ qn W k = a ∧ a ≠ 0)
theorem xO {W : RS} {H : Int → Prop} {S : Int × Int → Prop} {i : Int} : yT W H S (1, i) ↔ H i := by
  unfold yT
  constructor
  · rintro (h | h)
    · exact h.2
    · exact absurd rfl h.1
  · intro h; exact .inl ⟨rfl, h⟩
theorem jb {W : RS} {H : Int → Prop} {S : Int × Int → Prop} {k : Int × Int} (h1 : k.1 ≠ 1) : yT W H S k ↔ (k.1 ≠ 2 ∧ S k ∧ ¬ Z3 W H k) := by
  unfold yT
  constructor
  · rintro (h | h)
    · exact absurd h.1 h1
    · exact h.2
  · intro h; exact .inr ⟨h1, h⟩
theorem Zr {g : List Int} {a : Int} (h : g.Nodup) (ha : a ∉ g) : (g ++ [a]).Nodup := by
  rw [List.nodup_append]
  exact ⟨h, by simp, fun x hx y hy e => by rw [List.mem_singleton] at hy; exact ha (by rw [← hy, ← e]; exact hx)⟩
section
variable {W : RS} {D : Int → Option Sec} {nx : Int} {H : Int → Prop} {S : Int × Int → Prop} {w w' : Int × Int → Int} {s s' : Int × Int → Prop} {g g' : List Int}
theorem TS.fresh (hI : Inv W D nx) (hT : TS W H S w s g) {k : Int × Int} (hk : qw k) (hn : ¬ yT W H S k) (h0 : w k ≠ 0) : w k ∉ g := by
  rw [hT.w1 k hk hn] at h0 ⊢
  intro hm
  rcases (hT.gm _).1 hm with h | ⟨q, hq, hl, e, -⟩
  · exact hI.gdj _ h k hk rfl
  · exact hn ((hI.inj k q hk hq h0 e.symm) ▸ hl)
theorem JJ {i : Int} {k : Int × Int} (hu : ¬ kz i k) : Z3 W (fun j => H j ∨ j = i) k ↔ Z3 W H k := by
  unfold Z3
  constructor
  · rintro ⟨j, h1, h2, h3, h4⟩; exact ⟨j, h1, h2, fun h => h3 (.inl h), h4⟩
  · rintro ⟨j, h1, h2, h3, h4⟩; exact ⟨j, h1, h2, fun h => h.elim h3 (fun e => hu (e ▸ h4)), h4⟩
theorem TS.hole (hI : Inv W D nx) (hT : TS W H S w s g) {i : Int} (hi : InB i) (hn : ¬ H i) (hS : ∀ p, qw p → p.1 ≠ 1 → p.1 ≠ 2 → S p → ¬ kz i p)
    (hw : ∀ k, qw k → w' k = if k = (1, i) then 0 else w k) (hs : ∀ k, qw k → k.1 ≠ 1 → (s' k ↔ s k ∨ k = (2, 0) ∨ kz i k)) (hg : g' = if w (1, i) ≠ 0 then g ++ [w (1, i)] else g) :
    TS W (fun j => H j ∨ j = i) S w' s' g' := by
  have hl : ∀ k, qw k → k.1 ≠ 1 → (yT W (fun j => H j ∨ j = i) S k ↔ yT W H S k) := by
    intro k hk h1
    rw [jb h1, jb h1]
    constructor
    · rintro ⟨h2, h3, h4⟩; exact ⟨h2, h3, fun h => h4 ((JJ (hS k hk h1 h2 h3)).2 h)⟩
    · rintro ⟨h2, h3, h4⟩; exact ⟨h2, h3, fun h => h4 ((JJ (hS k hk h1 h2 h3)).1 h)⟩
  have hlb : ∀ j, yT W (fun j => H j ∨ j = i) S (1, j) ↔ (yT W H S (1, j) ∨ j = i) := fun j => by rw [xO, xO]
  have hni : ¬ yT W H S (1, i) := fun h => hn (xO.1 h)
  refine ⟨fun k hk h => ?_, fun k hk h => ?_, fun k hk h1 => ?_, ?_, fun a => ?_⟩
  · rw [hw k hk]
    by_cases e : k = (1, i)
    · rw [if_pos e]
    · rw [if_neg e]
      refine hT.w0 k hk ?_
      by_cases h1 : k.1 = 1
      · obtain ⟨k1, k2⟩ := k
        obtain rfl : k1 = 1 := h1
        exact ((hlb k2).1 h).resolve_right (fun e2 => e (by rw [e2]))
      · exact (hl k hk h1).1 h
  · rw [hw k hk]
    by_cases e : k = (1, i)
    · exact absurd (by rw [e]; exact (hlb i).2 (.inr rfl)) h
    · rw [if_neg e]
      refine hT.w1 k hk (fun h2 => h ?_)
      by_cases h1 : k.1 = 1
      · obtain ⟨k1, k2⟩ := k
        obtain rfl : k1 = 1 := h1
        exact (hlb k2).2 (.inl h2)
      · exact (hl k hk h1).2 h2
  · rw [hs k hk h1, hT.s k hk h1, hl k hk h1]
    have hm : WQ (fun j => H j ∨ j = i) k ↔ (WQ H k ∨ k = (2, 0) ∨ kz i k) := by
      unfold WQ
      constructor
      · rintro ⟨j, h | rfl, h2⟩
        · exact .inl ⟨j, h, h2⟩
        · exact .inr h2
      · rintro (⟨j, h, h2⟩ | h2)
        · exact ⟨j, .inl h, h2⟩
        · exact ⟨i, .inr rfl, h2⟩
    rw [hm]
    constructor
    · rintro (⟨h2, h3⟩ | h2)
      · exact ⟨h2, h3.imp id .inl⟩
      · refine ⟨fun h3 => ?_, .inr (.inr h2)⟩
        have h4 := (jb h1).1 h3
        rcases h2 with e | hu
        · exact h4.1 (by rw [e])
        · exact hS k hk h1 h4.1 h4.2.1 hu
    · rintro ⟨h2, h3 | h3 | h3⟩
      · exact .inl ⟨h2, .inl h3⟩
      · exact .inl ⟨h2, .inr h3⟩
      · exact .inr h3
  · rw [hg]; split
    · rename_i h0; exact Zr hT.gn (hT.fresh hI (y3 hi) hni h0)
    · exact hT.gn
  · have hwi := hT.w1 (1, i) (y3 hi) hni
    have e1 : a ∈ g' ↔ (a ∈ g ∨ (a = qn W (1, i) ∧ a ≠ 0)) := by
      rw [hg, hwi]
      by_cases h0 : qn W (1, i) ≠ 0
      · rw [if_pos h0, List.mem_append, List.mem_singleton]
        constructor
        · rintro (h | h)
          · exact .inl h
          · exact .inr ⟨h, h ▸ h0⟩
        · rintro (h | h)
          · exact .inl h
          · exact .inr h.1
      · rw [if_neg h0]
        constructor
        · exact .inl
        · rintro (h | h)
          · exact h
          · exact absurd h.1.symm (fun e => h0 (by rw [e]; exact h.2))
    rw [e1, hT.gm a]
    constructor
    · rintro ((h | ⟨k, hk, hlk, e, h0⟩) | ⟨e, h0⟩)
      · exact .inl h
      · refine .inr ⟨k, hk, ?_, e, h0⟩
        by_cases h1 : k.1 = 1
        · obtain ⟨k1, k2⟩ := k
          obtain rfl : k1 = 1 := h1
          exact (hlb k2).2 (.inl hlk)
        · exact (hl k hk h1).2 hlk
      · exact .inr ⟨(1, i), y3 hi, (hlb i).2 (.inr rfl), e.symm, h0⟩
    · rintro (h | ⟨k, hk, hlk, e, h0⟩)
      · exact .inl (.inl h)
      · by_cases h1 : k.1 = 1
        · obtain ⟨k1, k2⟩ := k
          obtain rfl : k1 = 1 := h1
          rcases (hlb k2).1 hlk with h | rfl
          · exact .inl (.inr ⟨_, hk, h, e, h0⟩)
          · exact .inr ⟨e.symm, h0⟩
        · exact .inl (.inr ⟨k, hk, (hl k hk h1).1 hlk, e, h0⟩)
theorem TS.sets (hT : TS W H S w s g) {S' : Int × Int → Prop} (h : ∀ k, qw k → (yT W H S' k ↔ yT W H S k)) : TS W H S' w s g := by
  refine ⟨fun k hk hl => hT.w0 k hk ((h k hk).1 hl), fun k hk hl => hT.w1 k hk (fun e => hl ((h k hk).2 e)), fun k hk h1 => by rw [hT.s k hk h1, h k hk], hT.gn, fun a => ?_⟩
  rw [hT.gm a]
  refine or_congr Iff.rfl ⟨?_, ?_⟩
  · rintro ⟨k, hk, hl, e⟩; exact ⟨k, hk, (h k hk).2 hl, e⟩
  · rintro ⟨k, hk, hl, e⟩; exact ⟨k, hk, (h k hk).1 hl, e⟩
theorem TS.keep (hT : TS W H S w s g) {q : Int × Int} (hq : Z3 W H q) : TS W H (fun k => S k ∨ k = q) w s g := by
  refine hT.sets fun k hk => ?_
  unfold yT
  refine or_congr Iff.rfl ⟨?_, ?_⟩
  · rintro ⟨h1, h2, h3 | h3, h4⟩
    · exact ⟨h1, h2, h3, h4⟩
    · exact absurd (h3 ▸ hq) h4
  · rintro ⟨h1, h2, h3, h4⟩; exact ⟨h1, h2, .inl h3, h4⟩
theorem TS.drop (hT : TS W H S w s g) {P : Int × Int → Prop} (hq : ∀ q, P q → Z3 W H q) : TS W H (fun k => S k ∧ ¬ P k) w s g := by
  refine hT.sets fun k hk => ?_
  unfold yT
  refine or_congr Iff.rfl ⟨?_, ?_⟩
  · rintro ⟨h1, h2, h3, h4⟩; exact ⟨h1, h2, h3.1, h4⟩
  · rintro ⟨h1, h2, h3, h4⟩; exact ⟨h1, h2, ⟨h3, fun h => h4 (hq k h)⟩, h4⟩
theorem TS.lose (hI : Inv W D nx) (hT : TS W H S w s g) {q : Int × Int} (hq : qw q) (hq1 : q.1 ≠ 1) (hq2 : q.1 ≠ 2) (hnk : ¬ Z3 W H q)
    (hw : ∀ k, qw k → w' k = if k = q then 0 else w k) (hs : ∀ k, qw k → k.1 ≠ 1 → (s' k ↔ s k ∧ k ≠ q)) (hg : g' = if w q ≠ 0 then g ++ [w q] else g) :
    TS W H (fun k => S k ∨ k = q) w' s' g' := by
  have hl : ∀ k, qw k → (yT W H (fun k => S k ∨ k = q) k ↔ (yT W H S k ∨ k = q)) := by
    intro k hk
    unfold yT
    constructor
    · rintro (h | ⟨h1, h2, h3 | h3, h4⟩)
      · exact .inl (.inl h)
      · exact .inl (.inr ⟨h1, h2, h3, h4⟩)
      · exact .inr h3
    · rintro ((h | ⟨h1, h2, h3, h4⟩) | h)
      · exact .inl h
      · exact .inr ⟨h1, h2, .inl h3, h4⟩
      · subst h; exact .inr ⟨hq1, hq2, .inr rfl, hnk⟩
  refine ⟨fun k hk h => ?_, fun k hk h => ?_, fun k hk h1 => ?_, ?_, fun a => ?_⟩
  · rw [hw k hk]; split
    · rfl
    · rename_i e; exact hT.w0 k hk (((hl k hk).1 h).resolve_right e)
  · rw [hw k hk, if_neg (fun e => h ((hl k hk).2 (.inr e)))]
    exact hT.w1 k hk (fun e => h ((hl k hk).2 (.inl e)))
  · rw [hs k hk h1, hT.s k hk h1, hl k hk]
    constructor
    · rintro ⟨⟨h2, h3⟩, h4⟩; exact ⟨fun h => h.elim h2 h4, h3⟩
    · rintro ⟨h2, h3⟩; exact ⟨⟨fun h => h2 (.inl h), h3⟩, fun h => h2 (.inr h)⟩
  · rw [hg]; split
    · rename_i h0; exact Zr hT.gn (hT.fresh hI hq (fun h => h0 (hT.w0 q hq h)) h0)
    · exact hT.gn
  · have e1 : a ∈ g' ↔ (a ∈ g ∨ (a = w q ∧ a ≠ 0)) := by
      rw [hg]
      by_cases h0 : w q ≠ 0
      · rw [if_pos h0, List.mem_append, List.mem_singleton]
        constructor
        · rintro (h | h)
          · exact .inl h
          · exact .inr ⟨h, h ▸ h0⟩
        · rintro (h | h)
          · exact .inl h
          · exact .inr h.1
      · rw [if_neg h0]
        constructor
        · exact .inl
        · rintro (h | h)
          · exact h
          · exact absurd h.1.symm (fun e => h0 (by rw [e]; exact h.2))
    rw [e1, hT.gm a]
    constructor
    · rintro ((h | ⟨k, hk, hlk, e, h0⟩) | ⟨e, h0⟩)
      · exact .inl h
      · exact .inr ⟨k, hk, (hl k hk).2 (.inl hlk), e, h0⟩
      · have hn : ¬ yT W H S q := fun h => h0 (e.trans (hT.w0 q hq h))
        exact .inr ⟨q, hq, (hl q hq).2 (.inr rfl), by rw [e, hT.w1 q hq hn], h0⟩
    · rintro (h | ⟨k, hk, hlk, e, h0⟩)
      · exact .inl (.inl h)
      · by_cases hl2 : yT W H S k
        · exact .inl (.inr ⟨k, hk, hl2, e, h0⟩)
        · have := ((hl k hk).1 hlk).resolve_left hl2
          subst this
          exact .inr ⟨by rw [hT.w1 _ hk hl2]; exact e.symm, h0⟩
end
structure TR (W X : RS) (H : Int → Prop) (S : Int × Int → Prop) : Prop where
  ts : TS W H S (qn X) (fun k => zD X k = true) X.gone
  b0 : ∀ i, InB i → H i → X.all i = Blk.zero
  b1 : ∀ i, InB i → ¬ H i → X.all i = W.all i
  num : X.num = W.num
  ver : X.ver = W.ver
  kind : X.kind = W.kind
  size : X.size = W.size
  time : X.time = W.time
structure TN (n m : NS) (W : RS) (H : Int → Prop) (S : Int × Int → Prop) : Prop where
  ts : TS W H S (fun k => (m.at_ k).getD 0) (fun k => m.stale k ≠ none) m.gone
  d0 : ∀ i, InB i → H i → m.data i = none
  d1 : ∀ i, InB i → ¬ H i → m.data i = n.data i
  st1 : ∀ i, m.stale (1, i) = none
  ok : NOk m
  num : m.num = n.num
  ver : m.ver = n.ver
  kind : m.kind = n.kind
  size : m.size = n.size
  time : m.time = n.time
theorem QY (j : Nat) : Sec.zero.l.getD j 0 = 0 := by
  show (List.replicate 128 (0 : Int)).getD j 0 = 0
  rw [List.getD_eq_getElem?_getD, List.getElem?_replicate]; split <;> rfl
def ki : Int × Int → Prop := fun _ => True
theorem tr_cpl {n m : NS} {W X : RS} {H : Int → Prop} {S : Int × Int → Prop} (h : Cpl n W) (hn : TN n m W H S) (hr : TR W X H S) : Cpl m X := by
  refine ⟨hn.num.trans (h.num.trans hr.num.symm), hn.ver.trans (h.ver.trans hr.ver.symm), hn.kind.trans (h.kind.trans hr.kind.symm), hn.size.trans (h.size.trans hr.size.symm), hn.time.trans (h.time.trans hr.time.symm), fun k hk => ?_, fun i hi => ?_, fun k hk h1 => ?_, hn.st1, ?_, hn.ok⟩
  · by_cases hl : yT W H S k
    · rw [hr.ts.w0 k hk hl]; exact hn.ts.w0 k hk hl
    · rw [hr.ts.w1 k hk hl]; exact hn.ts.w1 k hk hl
  · by_cases hh : H i
    · rw [hn.d0 i hi hh, hr.b0 i hi hh]; rfl
    · rw [hn.d1 i hi hh, hr.b1 i hi hh]; exact h.data i hi
  · exact (hn.ts.s k hk h1).trans (hr.ts.s k hk h1).symm
  · exact (List.perm_ext_iff_of_nodup hn.ts.gn hr.ts.gn).2 fun a => (hn.ts.gm a).trans (hr.ts.gm a).symm
section
variable {W X : RS} {D : Int → Option Sec} {nx : Int} {H : Int → Prop}
theorem V1 {i j : Int} : kz i (5, j) ↔ ww i = (5, j) := by
  unfold kz
  constructor
  · rintro (h | h)
    · exact absurd h.1 (by simp)
    · exact h
  · exact .inr
theorem K1 {i j : Int} (h : kz i (5, j)) : kz i (4, 0) := .inl ⟨rfl, by rw [V1.1 h]⟩
theorem Jn (hr : TR W X H ki) (k : Int × Int) : jQ X k ↔ Z3 W H k := by
  constructor
  · rintro ⟨i, hi, hh, hu⟩
    by_cases hH : H i
    · rw [hr.b0 i hi hH] at hh; cases hh
    · rw [hr.b1 i hi hH] at hh; exact ⟨i, hi, hh, hH, hu⟩
  · rintro ⟨i, hi, hh, hH, hu⟩
    exact ⟨i, hi, by rw [hr.b1 i hi hH]; exact hh, hu⟩
theorem xr (hI : Inv W D nx) {k : Int × Int} (hk : qw k) (h1 : k.1 ≠ 1) (h2 : k.1 ≠ 2) (hl : yT W H ki k) (hh : qn W k ≠ 0 ∨ zD W k = true) : ∃ i, H i ∧ kz i k := by
  obtain ⟨i, hi, hb, hu⟩ := hI.kid k hk h1 h2 hh
  have := (jb h1).1 hl
  by_cases hH : H i
  · exact ⟨i, hH, hu⟩
  · exact absurd ⟨i, hi, hb, hH, hu⟩ this.2.2
theorem WL (hr : TR W X H ki) {k : Int × Int} (hk : qw k) (h1 : k.1 ≠ 1) (hl : ¬ yT W H ki k) (h : zD W k = true ∨ WQ H k) : zD X k = true := (hr.ts.s k hk h1).2 ⟨hl, h⟩
theorem W5 : ¬ yT W H ki (2, 0) := fun h => ((jb (by decide)).1 h).1 rfl
theorem Vi (hI : Inv W D nx) (hr : TR W X H ki) (h : chL W) : chL X ∨ WQ H (4, 0) := by
  obtain ⟨j, h0, h1, hc⟩ := h
  rcases hc with hs | ⟨i, hi, hf, ha⟩
  · by_cases hl : yT W H ki (5, j)
    · obtain ⟨i, hH, hu⟩ := xr hI (zz ⟨h0, h1⟩) (by simp) (by simp) hl (.inr hs)
      exact .inr ⟨i, hH, .inr (K1 hu)⟩
    · exact .inl ⟨j, h0, h1, .inl (WL hr (zz ⟨h0, h1⟩) (by simp) hl (.inl hs))⟩
  · by_cases hH : H i
    · exact .inr ⟨i, hH, .inr (.inl ⟨rfl, by rw [ha]⟩)⟩
    · exact .inl ⟨j, h0, h1, .inr ⟨i, hi, by rw [hr.b1 i hi hH]; exact hf, ha⟩⟩
theorem Jm (hI : Inv W D nx) (hr : TR W X H ki) {k : Int × Int} (hk : qw k) (hl : ¬ yT W H ki k) (h : prR W k ∨ (k.1 ≠ 1 ∧ WQ H k)) : prR X k := by
  have hch : ∀ q, qw q → q.1 ≠ 1 → ¬ yT W H ki q → chB W q ∨ WQ H q → chB X q := by
    rintro q hq h1 hlq ((hs | ⟨i, hi, hf, ha⟩) | hm)
    · exact .inl (WL hr hq h1 hlq (.inl hs))
    · by_cases hH : H i
      · exact .inl (WL hr hq h1 hlq (.inr ⟨i, hH, .inr (.inr ha)⟩))
      · exact .inr ⟨i, hi, by rw [hr.b1 i hi hH]; exact hf, ha⟩
    · exact .inl (WL hr hq h1 hlq (.inr hm))
  have hkid : k.1 ≠ 1 → k.1 ≠ 2 → jQ X k := fun h1 h2 => (Jn hr k).2 (Classical.byContradiction fun e => hl ((jb h1).2 ⟨h2, trivial, e⟩))
  rcases wL hk with ⟨i, hi, rfl⟩ | rfl | rfl | rfl | ⟨j, hj, rfl⟩
  · have hH : ¬ H i := fun e => hl (xO.2 e)
    rw [ko, hr.b1 i hi hH]
    rcases h with h | h
    · exact ko.1 h
    · exact absurd rfl h.1
  · have hmk : WQ H (2, 0) → prR X (2, 0) := fun hm => ZX (WL hr y2 (by decide) W5 (.inr hm))
    rcases h with h | h
    · have h' := h
      unfold prR at h'
      rw [if_neg (by decide), if_neg (by decide), if_neg (by decide), if_neg (by decide)] at h'
      have hX : ((∃ i, InB i ∧ (X.all i).fresh = true) ∨ zD X (2, 0) = true ∨ zD X (3, 0) = true ∨ zD X (4, 0) = true ∨ chL X) → prR X (2, 0) := fun e => by
        unfold prR; rw [if_neg (by decide), if_neg (by decide), if_neg (by decide), if_neg (by decide)]; exact e
      have m24 : WQ H (4, 0) → WQ H (2, 0) := fun ⟨i, hi, _⟩ => ⟨i, hi, .inl rfl⟩
      rcases h' with ⟨i, hi, hf⟩ | hs | hs | hs | hc
      · by_cases hH : H i
        · exact hmk ⟨i, hH, .inl rfl⟩
        · exact hX (.inl ⟨i, hi, by rw [hr.b1 i hi hH]; exact hf⟩)
      · exact hX (.inr (.inl (WL hr y2 (by decide) W5 (.inl hs))))
      · by_cases hl3 : yT W H ki (3, 0)
        · obtain ⟨i, hH, -⟩ := xr hI zT (by decide) (by decide) hl3 (.inr hs)
          exact hmk ⟨i, hH, .inl rfl⟩
        · exact hX (.inr (.inr (.inl (WL hr zT (by decide) hl3 (.inl hs)))))
      · by_cases hl4 : yT W H ki (4, 0)
        · obtain ⟨i, hH, -⟩ := xr hI zX (by decide) (by decide) hl4 (.inr hs)
          exact hmk ⟨i, hH, .inl rfl⟩
        · exact hX (.inr (.inr (.inr (.inl (WL hr zX (by decide) hl4 (.inl hs))))))
      · rcases Vi hI hr hc with hc | hm
        · exact hX (.inr (.inr (.inr (.inr hc))))
        · exact hmk (m24 hm)
    · exact hmk h.2
  · unfold prR; rw [if_neg (by decide), if_neg (by decide), if_pos rfl]
    refine ⟨hch _ zT (by decide) hl ?_, hkid (by decide) (by decide)⟩
    rcases h with h | h
    · unfold prR at h; rw [if_neg (by decide), if_neg (by decide), if_pos rfl] at h; exact .inl h.1
    · exact .inr h.2
  · unfold prR; rw [if_neg (by decide), if_neg (by decide), if_neg (by decide), if_pos rfl]
    refine ⟨?_, hkid (by decide) (by decide)⟩
    rcases h with h | h
    · unfold prR at h; rw [if_neg (by decide), if_neg (by decide), if_neg (by decide), if_pos rfl] at h
      rcases h.1 with hs | hc
      · exact .inl (WL hr zX (by decide) hl (.inl hs))
      · rcases Vi hI hr hc with hc | hm
        · exact .inr hc
        · exact .inl (WL hr zX (by decide) hl (.inr hm))
    · exact .inl (WL hr zX (by decide) hl (.inr h.2))
  · unfold prR; rw [if_neg (by simp), if_pos rfl]
    refine ⟨hch _ (zz hj) (by simp) hl ?_, hkid (by simp) (by simp)⟩
    rcases h with h | h
    · unfold prR at h; rw [if_neg (by simp), if_pos rfl] at h; exact .inl h.1
    · exact .inr h.2
theorem tr_inv (hI : Inv W D nx) (hHi : ∀ i, H i → InB i) (hr : TR W X H ki) : Inv X D nx := by
  have hw0 := hr.ts.w0
  have hw1 := hr.ts.w1
  have hnl : ∀ k, qw k → qn X k ≠ 0 → ¬ yT W H ki k := fun k hk h hl => h (hw0 k hk hl)
  have hwX : ∀ k, qw k → qn X k ≠ 0 → qn X k = qn W k := fun k hk h => hw1 k hk (hnl k hk h)
  refine ⟨?_, ?_, ?_, ?_, ?_, ?_, ?_, hr.ts.gn, ?_, ?_, ?_, ?_, ?_, ?_, ?_, ?_, ?_, ?_, hI.nx⟩
  · intro i hi
    by_cases hH : H i
    · rw [hr.b0 i hi hH]; simp [Blk.zero]
    · rw [hr.b1 i hi hH]; exact hI.has i hi
  · intro i hi hh
    by_cases hH : H i
    · rw [hr.b0 i hi hH]; rfl
    · rw [hr.b1 i hi hH] at hh ⊢; exact hI.hole i hi hh
  · intro k hk h1 h2 h
    rw [Jn hr]
    have hl : ¬ yT W H ki k := by
      rcases h with h | h
      · exact hnl k hk h
      · exact ((hr.ts.s k hk h1).1 h).1
    exact Classical.byContradiction fun e => hl ((jb h1).2 ⟨h2, trivial, e⟩)
  · intro k hk h1 hkid
    have hl : ¬ yT W H ki k := fun hl => by
      have := (jb h1).1 hl
      exact this.2.2 ((Jn hr k).1 (hkid this.1))
    rw [hw1 k hk hl]
    refine (hI.place k hk h1 (fun h2 => ?_)).imp id (fun h => Jm hI hr hk hl (.inl h))
    obtain ⟨i, hi, hb, -, hu⟩ := (Jn hr k).1 (hkid h2)
    exact ⟨i, hi, hb, hu⟩
  · intro k hk h; have e := hwX k hk h; rw [e] at h ⊢; exact hI.rngA k hk h
  · intro a ha
    rcases (hr.ts.gm a).1 ha with h | ⟨k, hk, -, e, h0⟩
    · exact hI.rngG a h
    · have := hI.rngA k hk (by rw [e]; exact h0); rw [e] at this; exact this
  · intro k q hk hq h e
    have h2 : qn X q ≠ 0 := by rw [← e]; exact h
    have e1 := hwX k hk h
    have e2 := hwX q hq h2
    rw [e1] at h e
    rw [e2] at e
    exact hI.inj k q hk hq h e
  · intro a ha k hk e
    have h0 : a ≠ 0 := by
      rcases (hr.ts.gm a).1 ha with h | ⟨q, -, -, -, h0⟩
      · have := hI.rngG a h; omega
      · exact h0
    have hx : qn X k ≠ 0 := by rw [e]; exact h0
    have hwk := hwX k hk hx
    rcases (hr.ts.gm a).1 ha with h | ⟨q, hq, hl, eq, -⟩
    · exact hI.gdj a h k hk (by rw [← hwk, e])
    · have : q = k := hI.inj q k hq hk (by rw [eq]; exact h0) (by rw [eq, ← hwk, e])
      exact hnl k hk hx (this ▸ hl)
  · intro k hk h0 hnp
    have hl := hnl k hk h0
    have hnpW : ¬ prR W k := fun e => hnp (Jm hI hr hk hl (.inl e))
    have hnm : k.1 ≠ 1 → ¬ WQ H k := fun h1 hm => hnp (Jm hI hr hk hl (.inr ⟨h1, hm⟩))
    have hwk := hwX k hk h0
    rw [hwk, hI.disk k hk (by rw [← hwk]; exact h0) hnpW]
    congr 1
    have hblk : ∀ i, InB i → ¬ H i → qn X (1, i) = qn W (1, i) := fun i hi hH => hw1 _ (y3 hi) (fun e => hH (xO.1 e))
    rcases wL hk with ⟨i, hi, rfl⟩ | rfl | rfl | rfl | ⟨j, hj, rfl⟩
    · rw [yc, yc, hr.b1 i hi (fun e => hl (xO.2 e))]
    · have hH : ∀ i, ¬ H i := fun i e => hnm (by decide) ⟨i, e, .inl rfl⟩
      refine (xe (fun q hq => ?_) hr.num hr.ver hr.kind hr.size hr.time).symm
      by_cases hlq : yT W H ki q
      · rw [hw0 q hq hlq]
        refine Classical.byContradiction fun e => ?_
        by_cases q1 : q.1 = 1
        · rcases hlq with h | h
          · exact hH _ h.2
          · exact h.1 q1
        · obtain ⟨i, hi, -⟩ := xr hI hq q1 ((jb q1).1 hlq).1 hlq (.inl (fun e2 => e e2.symm))
          exact hH i hi
      · exact hw1 q hq hlq
    · have : y5 X (zP 1 0) = y5 W (zP 1 0) := by
        unfold y5
        refine List.map_congr_left fun j hj => ?_
        have hj := List.mem_range.1 hj
        unfold zP
        rw [if_neg (by decide), if_pos rfl]
        refine hblk _ ⟨by omega, by omega⟩ (fun e => hnm (by decide) ⟨_, e, .inr (.inr (Wl.2 (by unfold wG; rw [if_neg (by omega), if_neg (by omega), if_pos (by omega)])))⟩)
      unfold wx
      rw [if_neg (by decide), if_neg (by decide), if_pos rfl, if_neg (by decide), if_neg (by decide), if_pos rfl, this]
    · have : y5 X (fun j => (5, j)) = y5 W (fun j => (5, j)) := by
        unfold y5
        refine List.map_congr_left fun j hj => ?_
        have hj := List.mem_range.1 hj
        by_cases hlq : yT W H ki (5, (j : Int))
        · rw [hw0 _ (xK j hj) hlq]
          refine Classical.byContradiction fun e => ?_
          obtain ⟨i, hi, hu⟩ := xr hI (xK j hj) (by simp) (by simp) hlq (.inl (fun e2 => e e2.symm))
          exact hnm (by decide) ⟨i, hi, .inr (K1 hu)⟩
        · exact hw1 _ (xK j hj) hlq
      unfold wx
      rw [if_neg (by decide), if_neg (by decide), if_neg (by decide), if_pos rfl, if_neg (by decide), if_neg (by decide), if_neg (by decide), if_pos rfl, this]
    · have : y5 X (zP 2 j) = y5 W (zP 2 j) := by
        unfold y5
        refine List.map_congr_left fun m hm => ?_
        have hm := List.mem_range.1 hm
        unfold zP
        rw [if_neg (by decide), if_neg (by decide)]
        refine hblk _ ⟨by omega, by omega⟩ (fun e => hnm (by simp) ⟨_, e, .inr (V1.2 (WJ.2 (by unfold wG; rw [if_neg (by omega), if_neg (by omega), if_neg (by omega), if_pos (by omega)]; exact ⟨rfl, by dsimp only; omega⟩)))⟩)
      unfold wx
      rw [if_neg (by simp), if_pos rfl, if_neg (by simp), if_pos rfl]
      exact congrArg Z9 this.symm
  · intro a
    rw [hI.keys a, hr.ts.gm a]
    constructor
    · rintro (h | ⟨k, hk, e, h0⟩)
      · exact .inl (.inl h)
      · by_cases hl : yT W H ki k
        · exact .inl (.inr ⟨k, hk, hl, e, h0⟩)
        · exact .inr ⟨k, hk, by rw [hw1 k hk hl]; exact e, h0⟩
    · rintro ((h | ⟨k, hk, -, e, h0⟩) | ⟨k, hk, e, h0⟩)
      · exact .inl h
      · exact .inr ⟨k, hk, e, h0⟩
      · exact .inr ⟨k, hk, by rw [← hwX k hk (by rw [e]; exact h0)]; exact e, h0⟩
  · intro hg
    refine WL (k := (2, 0)) hr y2 (by decide) W5 ?_
    obtain ⟨a, ha⟩ := List.exists_mem_of_ne_nil _ hg
    rcases (hr.ts.gm a).1 ha with h | ⟨k, hk, hl, e, h0⟩
    · exact .inl (hI.gone (fun e => by rw [e] at h; cases h))
    · right
      by_cases k1 : k.1 = 1
      · rcases hl with hl | hl
        · exact ⟨k.2, hl.2, .inl rfl⟩
        · exact absurd k1 hl.1
      · obtain ⟨i, hi, -⟩ := xr hI hk k1 ((jb k1).1 hl).1 hl (.inl (by rw [e]; exact h0))
        exact ⟨i, hi, .inl rfl⟩
  · intro i hi j hj hle
    by_cases hH : H i
    · rw [hr.b0 i hi hH]; exact QY j
    · rw [hr.b1 i hi hH]; rw [hr.size] at hle; exact hI.zero i hi j hj hle
  · rw [hr.num]; exact hI.num
  · rw [hr.ver]; exact hI.ver
  · rw [hr.kind]; exact hI.kind
  · rw [hr.size]; exact hI.size
  · rw [hr.time]; exact hI.time
end
section
variable {n m : NS} {W X : RS} {D : Int → Option Sec} {nx : Int} {H : Int → Prop} {S : Int × Int → Prop}
theorem JK {k : Int × Int} : Z3 W (fun _ => False) k ↔ jQ W k := by
  unfold Z3 jQ
  constructor
  · rintro ⟨i, h1, h2, -, h4⟩; exact ⟨i, h1, h2, h4⟩
  · rintro ⟨i, h1, h2, h4⟩; exact ⟨i, h1, h2, id, h4⟩
theorem Kq (hI : Inv W D nx) {w : Int × Int → Int} {s : Int × Int → Prop} {g : List Int} (hw : ∀ k, qw k → w k = qn W k) (hs : ∀ k, qw k → k.1 ≠ 1 → (s k ↔ zD W k = true)) (hg : g.Perm W.gone) : TS W (fun _ => False) S w s g := by
  have hl : ∀ k, qw k → yT W (fun _ => False) S k → k.1 ≠ 1 ∧ qn W k = 0 ∧ zD W k = false := by
    intro k hk h
    rcases h with h | ⟨h1, h2, -, h4⟩
    · exact h.2.elim
    · refine ⟨h1, Classical.byContradiction fun e => h4 (JK.2 (hI.kid k hk h1 h2 (.inl e))), ?_⟩
      cases e : zD W k with
      | false => rfl
      | true => exact absurd (JK.2 (hI.kid k hk h1 h2 (.inr e))) h4
  refine ⟨fun k hk h => (hw k hk).trans (hl k hk h).2.1, fun k hk _ => hw k hk, fun k hk h1 => ?_, hg.nodup_iff.2 hI.gnd, fun a => ?_⟩
  · rw [hs k hk h1]
    constructor
    · intro h; exact ⟨fun e => (by rw [(hl k hk e).2.2] at h; cases h), .inl h⟩
    · rintro ⟨-, h | ⟨i, h, -⟩⟩
      · exact h
      · exact h.elim
  · rw [hg.mem_iff]
    constructor
    · exact .inl
    · rintro (h | ⟨k, hk, h, e, h0⟩)
      · exact h
      · exact absurd ((hl k hk h).2.1) (by rw [e]; exact h0)
theorem TN.start (h : Cpl n W) (hI : Inv W D nx) : TN n n W (fun _ => False) ki :=
  ⟨Kq hI h.at_ h.stale h.gone, fun _ _ e => e.elim, fun _ _ _ => rfl, h.stale1, h.ok, rfl, rfl, rfl, rfl, rfl⟩
theorem TR.start (hI : Inv W D nx) : TR W W (fun _ => False) (fun _ => False) :=
  ⟨Kq hI (fun _ _ => rfl) (fun _ _ _ => Iff.rfl) (List.Perm.refl _), fun _ _ e => e.elim, fun _ _ _ => rfl, rfl, rfl, rfl, rfl, rfl⟩
theorem TN.has (h : Cpl n W) (hI : Inv W D nx) (hN : TN n m W H S) {i : Int} (hi : InB i) : x8 m i ↔ ((W.all i).has = true ∧ ¬ H i) := by
  by_cases hH : H i
  · unfold x8
    have := hN.ts.w0 (1, i) (y3 hi) (xO.2 hH)
    rw [hN.d0 i hi hH]
    simp [this, hH]
  · have := hN.ts.w1 (1, i) (y3 hi) (fun e => hH (xO.1 e))
    have h2 : x8 m i ↔ x8 n i := by
      unfold x8
      rw [hN.d1 i hi hH, this, h.at_ _ (y3 hi)]
    rw [h2, h.hasN_iff hI.has hi]
    simp [hH]
theorem TN.kids (h : Cpl n W) (hI : Inv W D nx) (hN : TN n m W H S) (k : Int × Int) : WR m k = true ↔ Z3 W H k := by
  have hmem : ∀ i, i ∈ jd m ↔ InB i ∧ (W.all i).has = true ∧ ¬ H i := by
    intro i
    unfold jd
    rw [List.mem_filter, decide_eq_true_eq]
    have : i ∈ (List.range 1064).map (fun i : Nat => (i : Int)) ↔ InB i := yG (n := 1064)
    rw [this]
    constructor
    · rintro ⟨hi, hh⟩; exact ⟨hi, (hN.has h hI hi).1 hh⟩
    · rintro ⟨hi, hh⟩; exact ⟨hi, (hN.has h hI hi).2 hh⟩
  unfold WR Z3 kz
  by_cases e : k = (4, 0)
  · rw [if_pos e, List.any_eq_true]
    constructor
    · rintro ⟨i, hi, h5⟩
      have := (hmem i).1 hi
      exact ⟨i, this.1, this.2.1, this.2.2, .inl ⟨e, by simpa using h5⟩⟩
    · rintro ⟨i, hi, h1, h2, h3 | h3⟩
      · exact ⟨i, (hmem i).2 ⟨hi, h1, h2⟩, by simpa using h3.2⟩
      · exact absurd (h3.trans e) (xt i)
  · rw [if_neg e, List.any_eq_true]
    constructor
    · rintro ⟨i, hi, h5⟩
      have := (hmem i).1 hi
      exact ⟨i, this.1, this.2.1, this.2.2, .inr (by simpa using h5)⟩
    · rintro ⟨i, hi, h1, h2, h3 | h3⟩
      · exact absurd h3.1 e
      · exact ⟨i, (hmem i).2 ⟨hi, h1, h2⟩, by simpa using h3⟩
theorem TN.loseIf (h : Cpl n W) (hI : Inv W D nx) (hN : TN n m W H S) {q : Int × Int} (hq : qw q) (h1 : q.1 ≠ 1) (h2 : q.1 ≠ 2) : TN n (loseIf m q) W H (fun k => S k ∨ k = q) := by
  unfold Proofs.YtjikpomndbkfgaaGreatDoor.loseIf
  by_cases hk : WR m q = true
  · rw [if_pos hk]
    exact { hN with ts := hN.ts.keep ((hN.kids h hI q).1 hk) }
  · rw [if_neg hk]
    refine ⟨?_, hN.d0, hN.d1, fun i => ?_, hN.ok.lose q, hN.num, hN.ver, hN.kind, hN.size, hN.time⟩
    · refine hN.ts.lose hI hq h1 h2 (fun e => hk ((hN.kids h hI q).2 e)) (fun k _ => ?_) (fun k _ _ => ?_) rfl
      · show (upd m.at_ q none k).getD 0 = _
        unfold upd; split
        · rfl
        · rfl
      · show upd m.stale q none k ≠ none ↔ _
        unfold upd; split
        · rename_i e; simp [e]
        · rename_i e; simp [e]
    · show upd m.stale q none (1, i) = none
      rw [wb _ _ (fun e => h1 (by rw [← e]))]; exact hN.st1 i
theorem TN.core (hI : Inv W D nx) (hN : TN n m W H S) {i : Int} (hi : InB i) (hn : ¬ H i) (hS : ∀ p, qw p → p.1 ≠ 1 → p.1 ≠ 2 → S p → ¬ kz i p) {m' : NS}
    (ha : m'.at_ = upd m.at_ (1, i) none) (hd : m'.data = upd m.data i none) (hs : ∀ k, k.1 ≠ 1 → (m'.stale k ≠ none ↔ m.stale k ≠ none ∨ k = (2, 0) ∨ kz i k)) (hs1 : ∀ j, m'.stale (1, j) = none)
    (hg : m'.gone = if (m.at_ (1, i)).getD 0 ≠ 0 then m.gone ++ [(m.at_ (1, i)).getD 0] else m.gone) (hok : NOk m') (e1 : m'.num = m.num) (e2 : m'.ver = m.ver) (e3 : m'.kind = m.kind) (e4 : m'.size = m.size) (e5 : m'.time = m.time) :
    TN n m' W (fun j => H j ∨ j = i) S := by
  refine ⟨hN.ts.hole hI hi hn hS (fun k _ => ?_) (fun k _ h1 => hs k h1) hg, fun j hj hh => ?_, fun j hj hh => ?_, hs1, hok, e1.trans hN.num, e2.trans hN.ver, e3.trans hN.kind, e4.trans hN.size, e5.trans hN.time⟩
  · rw [ha]; unfold upd; split <;> rfl
  · rw [hd]
    by_cases e : j = i
    · rw [e, zQ]
    · rw [wb _ _ e]; exact hN.d0 j hj (hh.resolve_right e)
  · rw [hd, wb _ _ (fun e => hh (.inr e))]; exact hN.d1 j hj (fun e => hh (.inl e))
theorem Wq {K β : Type} [DecidableEq K] {f : K → Option β} {q k : K} {v : β} : upd f q (some v) k ≠ none ↔ f k ≠ none ∨ k = q := by
  unfold upd; split
  · rename_i e; simp [e]
  · rename_i e; simp [e]
theorem V0 {f : Int × Int → Option Int} {i : Int} {k : Int × Int} (h : k.1 ≠ 1) : upd f (1, i) none k = f k := wb _ _ (fun e => h (by rw [e]))
theorem setData_ok (h : NOk m) (i : Int) : NOk (zw m i none) := by
  refine ⟨fun j hj => h.data j (fun e => hj ?_), h.at1, h.at2, h.stale⟩
  show upd m.data i none j = none
  unfold upd; split
  · rfl
  · exact e
theorem TN.hole (h : Cpl n W) (hI : Inv W D nx) (hN : TN n m W H ki) {i : Int} (hi : InB i) (hh : (W.all i).has = true) (hn : ¬ H i) : TN n (jr m i) W (fun j => H j ∨ j = i) ki := by
  have hok1 : NOk (j2 (zw m i none) (1, i)) := (setData_ok hN.ok i).lose _
  have hok2 : NOk (setStale (j2 (zw m i none) (1, i)) (2, 0)) := hok1.setStale y2
  have hs1 : ∀ j, upd m.stale (1, i) none (1, j) = none := fun j => by
    unfold upd; split
    · rfl
    · exact hN.st1 j
  have hkid : ∀ k, kz i k → Z3 W H k := fun k hu => ⟨i, hi, hh, hn, hu⟩
  unfold jr
  rcases Wk hi with e | e | ⟨j, hj, e⟩
  · rw [if_pos e]
    refine hN.core hI hi hn (fun p hp h1 h2 _ hu => ?_) rfl rfl (fun k h1 => ?_) (fun j => ?_) rfl hok2 rfl rfl rfl rfl rfl
    · rcases hu with hu | hu
      · rw [e] at hu; exact absurd hu.2 (by decide)
      · rw [e] at hu; exact h2 (by rw [← hu])
    · show upd (upd m.stale (1, i) none) (2, 0) (some 1) k ≠ none ↔ _
      rw [Wq, V0 h1]
      unfold kz
      rw [e]
      constructor
      · rintro (h | h)
        · exact .inl h
        · exact .inr (.inl h)
      · rintro (h | h | h | h)
        · exact .inl h
        · exact .inr h
        · exact absurd h.2 (by decide)
        · exact .inr h.symm
    · show upd (upd m.stale (1, i) none) (2, 0) (some 1) (1, j) = none
      rw [wb _ _ (by simp)]; exact hs1 j
  · rw [if_neg (by rw [e]; decide), e, if_neg (by decide)]
    simp only [List.foldl_cons, List.foldl_nil]
    have hun : ∀ k, kz i k ↔ k = (3, 0) := fun k => by
      unfold kz; rw [e]
      constructor
      · rintro (h | h)
        · exact absurd h.2 (by decide)
        · exact h.symm
      · intro h; exact .inr h.symm
    have hd : TN n m W H (fun k => ki k ∧ ¬ k = (3, 0)) := { hN with ts := hN.ts.drop (P := fun k => k = (3, 0)) (fun q hq => hkid q ((hun q).2 hq)) }
    have hc := hd.core hI hi hn (m' := setStale (setStale (j2 (zw m i none) (1, i)) (2, 0)) (3, 0)) (fun p hp h1 h2 h3 hu => h3.2 ((hun p).1 hu)) rfl rfl (fun k h1 => by
      show upd (upd (upd m.stale (1, i) none) (2, 0) (some 1)) (3, 0) (some 1) k ≠ none ↔ _
      rw [Wq, Wq, V0 h1, hun k]
      constructor
      · rintro ((h | h) | h)
        · exact .inl h
        · exact .inr (.inl h)
        · exact .inr (.inr h)
      · rintro (h | h | h)
        · exact .inl (.inl h)
        · exact .inl (.inr h)
        · exact .inr h) (fun j => by
      show upd (upd (upd m.stale (1, i) none) (2, 0) (some 1)) (3, 0) (some 1) (1, j) = none
      rw [wb _ _ (by simp), wb _ _ (by simp)]; exact hs1 j) rfl (hok2.setStale zT) rfl rfl rfl rfl rfl
    have hf := (hc.loseIf h hI zT (by decide) (by decide)).loseIf h hI zX (by decide) (by decide)
    exact { hf with ts := hf.ts.sets (fun k hk => or_congr Iff.rfl (and_congr Iff.rfl (and_congr Iff.rfl (and_congr ⟨fun _ => by
      by_cases e3 : k = (3, 0)
      · exact .inl (.inr e3)
      · exact .inl (.inl ⟨trivial, e3⟩), fun _ => trivial⟩ Iff.rfl)))) }
  · rw [if_neg (by rw [e]; simp), e, if_pos rfl]
    simp only [List.foldl_cons, List.foldl_nil]
    have hun : ∀ k, kz i k ↔ (k = (5, j) ∨ k = (4, 0)) := fun k => by
      unfold kz; rw [e]
      constructor
      · rintro (h | h)
        · exact .inr h.1
        · exact .inl h.symm
      · rintro (h | h)
        · exact .inr h.symm
        · exact .inl ⟨h, rfl⟩
    have hd : TN n m W H (fun k => ki k ∧ ¬ (k = (5, j) ∨ k = (4, 0))) := { hN with ts := hN.ts.drop (P := fun k => k = (5, j) ∨ k = (4, 0)) (fun q hq => hkid q ((hun q).2 hq)) }
    have hc := hd.core hI hi hn (m' := setStale (setStale (setStale (j2 (zw m i none) (1, i)) (2, 0)) (5, j)) (4, 0)) (fun p hp h1 h2 h3 hu => h3.2 ((hun p).1 hu)) rfl rfl (fun k h1 => by
      show upd (upd (upd (upd m.stale (1, i) none) (2, 0) (some 1)) (5, j) (some 1)) (4, 0) (some 1) k ≠ none ↔ _
      rw [Wq, Wq, Wq, V0 h1, hun k]
      constructor
      · rintro (((h | h) | h) | h)
        · exact .inl h
        · exact .inr (.inl h)
        · exact .inr (.inr (.inl h))
        · exact .inr (.inr (.inr h))
      · rintro (h | h | h | h)
        · exact .inl (.inl (.inl h))
        · exact .inl (.inl (.inr h))
        · exact .inl (.inr h)
        · exact .inr h) (fun j' => by
      show upd (upd (upd (upd m.stale (1, i) none) (2, 0) (some 1)) (5, j) (some 1)) (4, 0) (some 1) (1, j') = none
      rw [wb _ _ (by simp), wb _ _ (by simp), wb _ _ (by simp)]; exact hs1 j') rfl ((hok2.setStale (zz hj)).setStale zX) rfl rfl rfl rfl rfl
    have hf := (hc.loseIf h hI (zz hj) (by simp) (by simp)).loseIf h hI zX (by decide) (by decide)
    exact { hf with ts := hf.ts.sets (fun k hk => or_congr Iff.rfl (and_congr Iff.rfl (and_congr Iff.rfl (and_congr ⟨fun _ => by
      by_cases e5 : k = (5, j)
      · exact .inl (.inr e5)
      · by_cases e4 : k = (4, 0)
        · exact .inr e4
        · exact .inl (.inl ⟨trivial, fun e => e.elim e5 e4⟩), fun _ => trivial⟩ Iff.rfl)))) }
theorem TN.holes (h : Cpl n W) (hI : Inv W D nx) (P : Int) : ∀ (l : List Int) (m : NS) (H : Int → Prop), TN n m W H ki → (∀ i ∈ l, InB i ∧ (W.all i).has = true ∧ ¬ H i) → l.Nodup →
    TN n (l.foldl (fun m i => if P < i then jr m i else m) m) W (fun j => H j ∨ (j ∈ l ∧ P < j)) ki := by
  intro l
  induction l with
  | nil =>
    intro m H hN _ _
    have : (fun j => H j ∨ (j ∈ ([] : List Int) ∧ P < j)) = H := by funext j; simp
    rw [this]; exact hN
  | cons i l ih =>
    intro m H hN hl hnd
    have hnd' := List.nodup_cons.1 hnd
    rw [List.foldl_cons]
    have hi := hl i (by simp)
    by_cases hP : P < i
    · rw [if_pos hP]
      have := ih (jr m i) (fun j => H j ∨ j = i) (hN.hole h hI hi.1 hi.2.1 hi.2.2) (fun j hj => ?_) hnd'.2
      · have e : (fun j => H j ∨ (j ∈ i :: l ∧ P < j)) = (fun j => (H j ∨ j = i) ∨ (j ∈ l ∧ P < j)) := by
          funext j
          refine propext ⟨?_, ?_⟩
          · rintro (h | ⟨h1, h2⟩)
            · exact .inl (.inl h)
            · rcases List.mem_cons.1 h1 with h1 | h1
              · exact .inl (.inr h1)
              · exact .inr ⟨h1, h2⟩
          · rintro ((h | h) | ⟨h1, h2⟩)
            · exact .inl h
            · exact .inr ⟨by rw [h]; simp, by rw [h]; exact hP⟩
            · exact .inr ⟨by simp [h1], h2⟩
        rw [e]; exact this
      · have := hl j (by simp [hj])
        exact ⟨this.1, this.2.1, fun e => e.elim this.2.2 (fun e2 => hnd'.1 (e2 ▸ hj))⟩
    · rw [if_neg hP]
      have := ih m H hN (fun j hj => hl j (by simp [hj])) hnd'.2
      have e : (fun j => H j ∨ (j ∈ i :: l ∧ P < j)) = (fun j => H j ∨ (j ∈ l ∧ P < j)) := by
        funext j
        refine propext ⟨?_, ?_⟩
        · rintro (h | ⟨h1, h2⟩)
          · exact .inl h
          · rcases List.mem_cons.1 h1 with h1 | h1
            · exact absurd (h1 ▸ h2) hP
            · exact .inr ⟨h1, h2⟩
        · rintro (h | ⟨h1, h2⟩)
          · exact .inl h
          · exact .inr ⟨by simp [h1], h2⟩
      rw [e]; exact this
end
end
end Go.Proofs.YtjikpomndbkfgaaGreatDoor
