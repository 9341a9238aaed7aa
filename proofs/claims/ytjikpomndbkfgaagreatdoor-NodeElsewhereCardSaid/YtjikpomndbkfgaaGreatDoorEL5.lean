/- NodeElsewhere: for every input that the statement's row lets in the law answers true and its arguments read as before; conditions: none beyond the row's own (part 5; joined, pruned and shortened by a program of the prover's own: names of two letters stand for longer ones.) -/
import Derived.Test.YtjikpomndbkfgaaGreatDoorEL4
set_option linter.all false
set_option linter.unusedVariables false
set_option linter.unusedSimpArgs false
set_option linter.unusedSectionVars false
namespace Go.Sx
open Go
theorem SlC.slice2 {e sz : Nat} {v : Value} {n : Nat} {cs : List Value} {C : qM} (h : SlC e sz v n cs C) : ∃ p c, v = .slice p n c ∧ n ≤ c := by
  rcases h with ⟨rfl, rfl, _, _⟩ | ⟨_, _, _, rfl, _, _, _, h⟩
  · exact ⟨_, _, rfl, Nat.le_refl _⟩
  · exact ⟨_, _, rfl, h⟩
theorem QL {w0 : World} {L F : Res} {e sz : Nat} {p : Option Addr} {n c l h : Nat} {cs : List Value} {C : qM} (hs : SlC e sz (.slice p n c) n cs C) [ht : Take1 L C F] (h1 : l ≤ h) (h2 : h ≤ n) :
    Reads w0 L (.slice (if c = l then p else p.map (·.add (l * sz))) (h - l) (c - l)) (h - l) sz ((cs.drop (l * sz)).take ((h - l) * sz)) := by
  rcases hs with ⟨he, rfl, rfl, rfl⟩ | ⟨b, cap, spare, he, hcs, rfl, hsp, hc⟩
  · cases he
    have e0 : h - l = 0 := by omega
    exact ⟨_, _, rfl, by simp [e0], .inl (by simp [e0])⟩
  · cases he
    have hle : l * sz + (h - l) * sz ≤ n * sz := by rw [← Nat.add_mul]; exact Nat.mul_le_mul_right _ (by omega)
    refine ⟨_, _, rfl, by rw [List.length_take, List.length_drop, hcs]; omega, ?_⟩
    by_cases e0 : h - l = 0
    · exact .inl (by simp [e0])
    · right
      rw [if_neg (show ¬ c = l by omega)]
      refine ⟨b, l * sz, (cs ++ spare).toArray, e, (0, 0), by simp [yP], (ht.perm.mem_iff).2 (by simp), ?_⟩
      rw [List.toList_toArray, List.drop_append_of_le_length (by omega), List.take_append_of_le_length (by rw [List.length_drop]; omega)]
end Go.Sx
namespace Go.Proofs.YtjikpomndbkfgaaGreatDoor
open Go Go.Sx Go.Nd
variable {w0 : World} {L F : Res} {ba bl : Nat}
set_option maxRecDepth 10000
def xx (x : Int) : List Int → List Int
  | [] => [x]
  | y :: ys => if y ≤ x then y :: xx x ys else x :: y :: ys
def WB (xs : List Int) : List Int := xs.foldl (fun o x => xx x o) []
theorem Ki (x : Int) (l : List Int) : (xx x l).Perm (x :: l) := by
  induction l with
  | nil => exact List.Perm.refl _
  | cons y ys ih =>
    unfold xx; split
    · exact (ih.cons y).trans (List.Perm.swap x y ys)
    · exact List.Perm.refl _
theorem insR_sorted (x : Int) (l : List Int) (h : l.Pairwise (· ≤ ·)) : (xx x l).Pairwise (· ≤ ·) := by
  induction l with
  | nil => simp [xx]
  | cons y ys ih =>
    have h' := List.pairwise_cons.1 h
    unfold xx; split
    · rename_i hyx
      refine List.pairwise_cons.2 ⟨fun z hz => ?_, ih h'.2⟩
      rcases List.mem_cons.1 ((Ki x ys).mem_iff.1 hz) with rfl | hz
      · exact hyx
      · exact h'.1 z hz
    · refine List.pairwise_cons.2 ⟨fun z hz => ?_, h⟩
      rcases List.mem_cons.1 hz with rfl | hz
      · omega
      · have := h'.1 z hz; omega
theorem Y7 (xs o : List Int) (ho : o.Pairwise (· ≤ ·)) : (xs.foldl (fun o x => xx x o) o).Pairwise (· ≤ ·) ∧ (xs.foldl (fun o x => xx x o) o).Perm (o ++ xs) := by
  induction xs generalizing o with
  | nil => exact ⟨ho, by simp⟩
  | cons x xs ih =>
    have h := ih (xx x o) (insR_sorted x o ho)
    refine ⟨h.1, h.2.trans ?_⟩
    exact ((Ki x o).append_right xs).trans (by simpa using (List.perm_middle (l₁ := o) (l₂ := xs) (a := x)).symm)
theorem insAll_srt (xs : List Int) : WB xs = srt xs := by
  have h := Y7 xs [] (by simp)
  refine List.Perm.eq_of_pairwise (le := fun a b => a ≤ b) (fun a b _ _ h1 h2 => by omega) h.1 ?_ (h.2.trans (by rw [List.nil_append]; exact (List.mergeSort_perm xs _).symm))
  have := List.pairwise_mergeSort (le := fun a b : Int => decide (a ≤ b)) (fun a b c h1 h2 => by simp at *; omega) (fun a b => by simp; omega) xs
  exact this.imp (fun h => by simpa using h)
theorem YO (x : Int) : ∀ (l : List Int) (k : Nat), k ≤ l.length → (∀ y ∈ l.take k, y ≤ x) → (∀ y, l[k]? = some y → x < y) → l.take k ++ [x] ++ l.drop k = xx x l := by
  intro l
  induction l with
  | nil => intro k hk _ _; simp at hk; subst hk; rfl
  | cons y ys ih =>
    intro k hk h1 h2
    cases k with
    | zero =>
      have := h2 y rfl
      unfold xx; rw [if_neg (by omega)]; rfl
    | succ k =>
      have := h1 y (by simp)
      unfold xx; rw [if_pos this]
      have := ih k (by simpa using hk) (fun z hz => h1 z (by simp [hz])) (fun z hz => h2 z (by simpa using hz))
      rw [← this]; rfl
theorem insAll_len (xs : List Int) : (WB xs).length = xs.length := by
  have := (Y7 xs [] (by simp)).2.length_eq
  rwa [List.nil_append] at this
theorem xy (l : List Int) (i n : Nat) : ((iV l).drop i).take n = iV ((l.drop i).take n) := by simp [iV, List.map_take, List.map_drop]
theorem jG {l : List Int} {r : List Value} {i : Nat} {a : Int} (h : l[i]? = some a) : wG (iV l ++ r) (i * 1) = some (.int .i64 a) := by
  rw [wi, Nat.mul_one, List.getElem?_append_left (by simp [iV]; exact (List.getElem?_eq_some_iff.1 h).1)]; simp [iV, h]
theorem Ye (u : Value) (C : qM) (xs : List Int) (hs : SlC 3 1 u xs.length (iV xs) C) (hl : xs.length ≤ 1000000) :
    FnT Tryz.prog w0 78 #[u] (C :: F) (fun v L' => ∃ C', SlC 3 1 v (srt xs).length (iV (srt xs)) C' ∧ L' = C' :: C :: F) := by
  obtain ⟨pu, cu, hu⟩ := hs.slice
  refine FnT.enter (E0 := [(0, _)]) (N := 47) Tryz.func78 rfl rfl rfl rfl ?_
  refine Tr.seq <| Tr.region <| q9 (qC rfl) <| qB <| QAt.seq <| Tr.seq <| Tr.region <| q9 (qC rfl) <| qB <| QAt.seq <| Tr.seq <| Tr.seq <| Tr.region <| q9 (qC rfl) <| qB <| QAt.seq <| Tr.block <| wB (Γ := {pΓ : (Nat) × (Value) × (qM) × (List Int) // (fun (i : Nat) (uo : Value) (Co : qM) (os : List Int) => i ≤ xs.length ∧ SlC 3 1 uo os.length (iV os) Co ∧ os = WB (xs.take i)) pΓ.1 pΓ.2.1 pΓ.2.2.1 pΓ.2.2.2}) (fun g => (fun (i : Nat) (uo : Value) (Co : qM) (os : List Int) => [(0, u), (3, uo), (4, .int .i64 i)]) g.1.1 g.1.2.1 g.1.2.2.1 g.1.2.2.2) (fun g => (fun (i : Nat) (uo : Value) (Co : qM) (os : List Int) => Co :: C :: F) g.1.1 g.1.2.1 g.1.2.2.1 g.1.2.2.2) (fun g => (fun (i : Nat) (uo : Value) (Co : qM) (os : List Int) => xs.length - i) g.1.1 g.1.2.1 g.1.2.2.1 g.1.2.2.2) ⟨(0, .slice none 0 0, [], []), by dsimp only; exact ⟨by omega, zu _ _, rfl⟩⟩ (qP _) ?_
  rintro ⟨⟨i, uo, Co, os⟩, hloop⟩
  replace hloop : i ≤ xs.length ∧ SlC 3 1 uo os.length (iV os) Co ∧ os = WB (xs.take i) := hloop
  obtain ⟨hi, hsl, hos⟩ := hloop
  show Tr _ _ _ ([(0, u), (3, uo), (4, .int .i64 i)]) (Co :: C :: F) _ _
  refine Tr.seq <| Tr.seq <| Tr.region <| q9 (qA rfl) <| q9 (qA rfl) <| q9 (qg (by rw [← hu]; rfl)) ?_
  refine q9 (qv rfl rfl) <| qB <| QAt.seq <| qI rfl (fun hc3 => ?_) (fun hc3 => ?_)
  ·
   refine Tr.skip <| QAt.seq <| Tr.seq <| Tr.block <| Tr.seq ?_
   obtain ⟨x, hx⟩ : ∃ x, xs[i]? = some x := ⟨_, List.getElem?_eq_getElem (by omega)⟩
   have hol : os.length = i := by rw [hos, insAll_len]; simp; omega
   obtain ⟨po, co, hvo, hcap⟩ := hsl.slice2
   subst hvo
   rcases hs with ⟨-, h0, -⟩ | ⟨bu, cu2, spu, hu2, hcu, rfl, hcapu, hncu⟩
   · omega
   subst hu2
   refine Tr.region <| q9 (qC rfl) <| qB <| QAt.seq <| zA (Γ := {pΓ : (Nat) // (fun (k : Nat) => k ≤ os.length ∧ (∀ y ∈ os.take k, y ≤ x) ∧ (∀ y, os[k]? = some y → x < y)) pΓ}) (fun g => (fun (k : Nat) => [(0, .slice (some ⟨bu, 0, none⟩) xs.length cu2), (3, .slice po os.length co), (4, .int .i64 i), (5, .int .i64 k)]) g.1) (fun g => (fun (k : Nat) => Co :: [(bu, .cells (iV xs ++ spu).toArray 3 (0, 0))] :: F) g.1) ?_ ?_
   ·
    refine Tr.block <| wB (Γ := {pΓ : (Nat) // (fun (k : Nat) => k ≤ os.length ∧ ∀ y ∈ os.take k, y ≤ x) pΓ}) (fun g => (fun (k : Nat) => [(0, .slice (some ⟨bu, 0, none⟩) xs.length cu2), (3, .slice po os.length co), (4, .int .i64 i), (5, .int .i64 k)]) g.1) (fun g => (fun (k : Nat) => Co :: [(bu, .cells (iV xs ++ spu).toArray 3 (0, 0))] :: F) g.1) (fun g => (fun (k : Nat) => os.length - k) g.1) ⟨0, by dsimp only; exact ⟨by omega, by simp⟩⟩ (qP _) ?_
    rintro ⟨k, hloop⟩
    replace hloop : k ≤ os.length ∧ ∀ y ∈ os.take k, y ≤ x := hloop
    obtain ⟨hk, hle⟩ := hloop
    show Tr _ _ _ ([(0, .slice (some ⟨bu, 0, none⟩) xs.length cu2), (3, .slice po os.length co), (4, .int .i64 i), (5, .int .i64 k)]) (Co :: [(bu, .cells (iV xs ++ spu).toArray 3 (0, 0))] :: F) _ _
    refine Tr.seq <| Tr.seq <| Tr.drawn qm <| qr [(13, .pure _), (14, .pure _), (15, .pure _)] (by kernel_rfl) rfl rfl rfl wL (ParH.pure rfl (fun X => qA rfl) <| ParH.pure rfl (fun X => qA rfl) <| ParH.pure rfl (fun X => qg rfl) <| ParH.nil rfl) ?_
    dsimp only [zG, List.drop, List.length]
    refine qq (by kernel_rfl) (qv rfl rfl) ?_
    refine qq (by kernel_rfl) (qA rfl) ?_
    refine yp (s := 17) rfl (fun hg6_4 => ?_) (fun hg6_4 => ?_)
    ·
     obtain ⟨y, hy⟩ : ∃ y, os[k]? = some y := ⟨_, List.getElem?_eq_getElem (by omega)⟩
     rcases id hsl with ⟨-, h0, -⟩ | ⟨b, cap, spare, hv, hcs, rfl, hcapo, hnc⟩
     · omega
     cases hv
     refine qr [(18, .pure _), (19, .pure _), (20, .pure _), (21, .pure _), (22, .pure _), (23, .pure _), (24, .pure _), (25, .pure _)] (by kernel_rfl) rfl rfl rfl wL (wN rfl rfl rfl (fun X => qA rfl) <| wN rfl rfl rfl (fun X => qA rfl) <| wN rfl rfl rfl (fun X => qf (j := k) (off := k * 1) rfl rfl rfl (by omega) (by simp)) <| wN rfl rfl rfl (fun X => qG rfl (jG hy)) <| wN rfl rfl rfl (fun X => qA rfl) <| wN rfl rfl rfl (fun X => qA rfl) <| wN rfl rfl rfl (fun X => qf (j := i) (off := i * 1) rfl rfl rfl (by omega) (by simp)) <| wN rfl rfl rfl (fun X => qG rfl (jG hx)) <| ParH.nil rfl) ?_
     dsimp only [zG, List.drop, List.length]
     refine kL (by kernel_rfl) rfl rfl (Yl rfl rfl) ?_
     refine qq (by kernel_rfl) (qT rfl rfl) ?_
     refine qt <| QAt.seq <| qI rfl (fun hc6 => ?_) (fun hc6 => ?_)
     ·
      refine Tr.skip <| QAt.seq <| Tr.block <| Tr.region <| q9 (qA rfl) <| q9 (qj rfl rfl (by omega)) <| q9 (qC rfl) <| qB <| QAt.block <| qh ⟨k + 1, ?_⟩ ?_ ?_
      ·
       try dsimp only
       refine ⟨by omega, fun z hz => ?_⟩
       rw [List.take_add_one, hy] at hz
       rcases List.mem_append.1 hz with hz | hz
       · exact hle z hz
       · obtain rfl : z = y := by simpa using hz
         omega
      · (try dsimp only); omega
      · (try dsimp only); exact qP _
     ·
      refine Tr.exit <| qX <| qY <| qS <| qO ⟨k, ?_⟩ ?_
      ·
       try dsimp only
       first
       | exact ⟨hk, hle, fun z hz => by rw [hy] at hz; cases hz; omega⟩
       | exact ⟨hk, hle, fun z hz => by have := (List.getElem?_eq_some_iff.1 hz).1; omega⟩
      · (try dsimp only); exact qP _
    ·
     refine qr [(18, .pure undef), (19, .pure undef), (20, .pure undef), (21, .pure undef), (22, .pure undef), (23, .pure undef), (24, .pure undef), (25, .pure undef)] (by kernel_rfl) rfl rfl rfl wL (ParH.skip rfl rfl rfl rfl <| ParH.skip rfl rfl rfl rfl <| ParH.skip rfl rfl rfl rfl <| ParH.skip rfl rfl rfl rfl <| ParH.skip rfl rfl rfl rfl <| ParH.skip rfl rfl rfl rfl <| ParH.skip rfl rfl rfl rfl <| ParH.skip rfl rfl rfl rfl <| ParH.nil rfl) ?_
     dsimp only [zG, List.drop, List.length]
     refine ko (by kernel_rfl) rfl rfl rfl ?_
     refine qq (by kernel_rfl) (qL rfl rfl) ?_
     refine qt <| QAt.seq <| wD rfl <| Tr.exit <| qX <| qY <| qS <| qO ⟨k, ?_⟩ ?_
     ·
      try dsimp only
      first
      | exact ⟨hk, hle, fun z hz => by rw [hy] at hz; cases hz; omega⟩
      | exact ⟨hk, hle, fun z hz => by have := (List.getElem?_eq_some_iff.1 hz).1; omega⟩
     · (try dsimp only); exact qP _
   rintro ⟨k, hcut⟩
   replace hcut : k ≤ os.length ∧ (∀ y ∈ os.take k, y ≤ x) ∧ (∀ y, os[k]? = some y → x < y) := hcut
   obtain ⟨hk, hle, hgt⟩ := hcut
   show Tr _ _ _ ([(0, .slice (some ⟨bu, 0, none⟩) xs.length cu2), (3, .slice po os.length co), (4, .int .i64 i), (5, .int .i64 k)]) (Co :: [(bu, .cells (iV xs ++ spu).toArray 3 (0, 0))] :: F) _ _
   refine Tr.seq <| Tr.region <| qF (op_buildSlice0) ?_
   rintro t30 _ ⟨be, rfl, rfl⟩
   refine q9 (qA rfl) <| q9 (qA rfl) <| q9 (kk (kl := .i64) (kh := .i64) (l := 0) (h := k) rfl rfl rfl (by omega) (by omega) hcap) <| qF (wP (m := k - 0) (sz := 1) rfl rfl (SlC.fresh (b := be) (n := 0) (cs := []) rfl) (QL (l := 0) (h := k) hsl (by omega) (by omega)) (by rw [xy]; exact x3 _) Tryz.underlying39 rfl rfl (by omega)) ?_
   rintro t34 _ ⟨C', hs', rfl⟩
   refine q9 (qC rfl) <| qB ?_
   have hs2 : SlC 3 1 t34 k (iV (os.take k)) C' := by rw [List.nil_append, xy] at hs'; simpa using hs'
   refine QAt.seq <| yL qm (show TrS _ _ _ _ [false, false, false, false, false, false, false, false, false, false, false, false] _ _ _ from ?_)
   refine TrS.take 0 rfl rfl (by kernel_rfl) rfl (w6 rfl) ?_
   refine TrS.take 1 rfl rfl (by kernel_rfl) rfl (w6 rfl) ?_
   refine TrS.take 2 rfl rfl (by kernel_rfl) rfl (w6 rfl) ?_
   refine TrS.take 3 rfl rfl (by kernel_rfl) rfl (wU (j := i) (off := i * 1) rfl rfl rfl (by omega) (by simp)) ?_
   refine TrS.take 7 rfl rfl (by kernel_rfl) rfl (w6 rfl) ?_
   refine TrS.take 8 rfl rfl (by kernel_rfl) rfl (w6 rfl) ?_
   refine wg (i := 4) (j := 9) (by kernel_rfl) rfl ?_ ?_
   ·
    refine qQ rfl rfl rfl (qG rfl (jG hx)) <| wg (i := 5) (j := 9) (by kernel_rfl) rfl ?_ ?_
    ·
     refine qp rfl rfl rfl (w5 rfl rfl rfl) ?_
     rintro t40 _ ⟨b40, rfl, rfl⟩
     refine wg (i := 6) (j := 9) (by kernel_rfl) rfl ?_ ?_
     ·
      refine qp rfl rfl rfl (wP (m := 1) (sz := 1) rfl rfl hs2 (wQ (ys := iV [x]) inferInstance rfl rfl) rfl Tryz.underlying39 rfl rfl (by omega)) ?_
      rintro t41 _ ⟨C2, hs3, rfl⟩
      refine TrS.one (i := 9) (by kernel_rfl) rfl ?_
      refine qQ rfl rfl rfl (kk (kl := .i64) (kh := .i64) (l := k) (h := os.length) rfl rfl rfl (by omega) (by omega) hcap) <| TrS.one (i := 10) (by kernel_rfl) rfl ?_
      refine qp rfl rfl rfl (wP (m := os.length - k) (sz := 1) rfl rfl hs3 (QL (l := k) (h := os.length) hsl (by omega) (by omega)) (by rw [xy]; exact x3 _) Tryz.underlying39 rfl rfl (by omega)) ?_
      rintro t45 _ ⟨C4, hs4, rfl⟩
      refine TrS.take 11 rfl rfl (by kernel_rfl) rfl (wA rfl) ?_
      refine qy (by kernel_rfl) ?_
      refine QAt.block <| QAt.seq <| Tr.region <| q9 (qA rfl) <| q9 (qj rfl rfl (by omega)) <| q9 (qC rfl) <| qB <| qh ⟨(i + 1, t45, C4, xx x os), ?_⟩ ?_ ?_
      ·
       try dsimp only
       have e := YO x os k hk hle hgt
       have el : (xx x os).length = k + 1 + (os.length - k) := by rw [← e]; simp; omega
       have ev : iV (os.take k ++ [x] ++ os.drop k) = iV (os.take k) ++ iV [x] ++ ((iV os).drop (k * 1)).take ((os.length - k) * 1) := by rw [xy, Nat.mul_one, Nat.mul_one, List.take_of_length_le (l := os.drop k) (by rw [List.length_drop]; omega)]; simp [iV]
       refine ⟨by omega, by rw [el, ← e, ev]; exact hs4, ?_⟩
       rw [hos]; unfold WB; rw [List.take_add_one, hx, List.foldl_append]; rfl
      · (try dsimp only); omega
      · (try dsimp only); exact qP _
     ·
      refine qQ rfl rfl rfl (kk (kl := .i64) (kh := .i64) (l := k) (h := os.length) rfl rfl rfl (by omega) (by omega) hcap) <| TrS.one (i := 6) (by kernel_rfl) rfl ?_
      refine qp rfl rfl rfl (wP (m := 1) (sz := 1) rfl rfl hs2 (wQ (ys := iV [x]) inferInstance rfl rfl) rfl Tryz.underlying39 rfl rfl (by omega)) ?_
      rintro t41 _ ⟨C2, hs3, rfl⟩
      refine TrS.one (i := 10) (by kernel_rfl) rfl ?_
      refine qp rfl rfl rfl (wP (m := os.length - k) (sz := 1) rfl rfl hs3 (QL (l := k) (h := os.length) hsl (by omega) (by omega)) (by rw [xy]; exact x3 _) Tryz.underlying39 rfl rfl (by omega)) ?_
      rintro t45 _ ⟨C4, hs4, rfl⟩
      refine TrS.take 11 rfl rfl (by kernel_rfl) rfl (wA rfl) ?_
      refine qy (by kernel_rfl) ?_
      refine QAt.block <| QAt.seq <| Tr.region <| q9 (qA rfl) <| q9 (qj rfl rfl (by omega)) <| q9 (qC rfl) <| qB <| qh ⟨(i + 1, t45, C4, xx x os), ?_⟩ ?_ ?_
      ·
       try dsimp only
       have e := YO x os k hk hle hgt
       have el : (xx x os).length = k + 1 + (os.length - k) := by rw [← e]; simp; omega
       have ev : iV (os.take k ++ [x] ++ os.drop k) = iV (os.take k) ++ iV [x] ++ ((iV os).drop (k * 1)).take ((os.length - k) * 1) := by rw [xy, Nat.mul_one, Nat.mul_one, List.take_of_length_le (l := os.drop k) (by rw [List.length_drop]; omega)]; simp [iV]
       refine ⟨by omega, by rw [el, ← e, ev]; exact hs4, ?_⟩
       rw [hos]; unfold WB; rw [List.take_add_one, hx, List.foldl_append]; rfl
      · (try dsimp only); omega
      · (try dsimp only); exact qP _
    ·
     refine qQ rfl rfl rfl (kk (kl := .i64) (kh := .i64) (l := k) (h := os.length) rfl rfl rfl (by omega) (by omega) hcap) <| TrS.one (i := 5) (by kernel_rfl) rfl ?_
     refine qp rfl rfl rfl (w5 rfl rfl rfl) ?_
     rintro t40 _ ⟨b40, rfl, rfl⟩
     refine TrS.one (i := 6) (by kernel_rfl) rfl ?_
     refine qp rfl rfl rfl (wP (m := 1) (sz := 1) rfl rfl hs2 (wQ (ys := iV [x]) inferInstance rfl rfl) rfl Tryz.underlying39 rfl rfl (by omega)) ?_
     rintro t41 _ ⟨C2, hs3, rfl⟩
     refine TrS.one (i := 10) (by kernel_rfl) rfl ?_
     refine qp rfl rfl rfl (wP (m := os.length - k) (sz := 1) rfl rfl hs3 (QL (l := k) (h := os.length) hsl (by omega) (by omega)) (by rw [xy]; exact x3 _) Tryz.underlying39 rfl rfl (by omega)) ?_
     rintro t45 _ ⟨C4, hs4, rfl⟩
     refine TrS.take 11 rfl rfl (by kernel_rfl) rfl (wA rfl) ?_
     refine qy (by kernel_rfl) ?_
     refine QAt.block <| QAt.seq <| Tr.region <| q9 (qA rfl) <| q9 (qj rfl rfl (by omega)) <| q9 (qC rfl) <| qB <| qh ⟨(i + 1, t45, C4, xx x os), ?_⟩ ?_ ?_
     ·
      try dsimp only
      have e := YO x os k hk hle hgt
      have el : (xx x os).length = k + 1 + (os.length - k) := by rw [← e]; simp; omega
      have ev : iV (os.take k ++ [x] ++ os.drop k) = iV (os.take k) ++ iV [x] ++ ((iV os).drop (k * 1)).take ((os.length - k) * 1) := by rw [xy, Nat.mul_one, Nat.mul_one, List.take_of_length_le (l := os.drop k) (by rw [List.length_drop]; omega)]; simp [iV]
      refine ⟨by omega, by rw [el, ← e, ev]; exact hs4, ?_⟩
      rw [hos]; unfold WB; rw [List.take_add_one, hx, List.foldl_append]; rfl
     · (try dsimp only); omega
     · (try dsimp only); exact qP _
   ·
    refine qQ rfl rfl rfl (kk (kl := .i64) (kh := .i64) (l := k) (h := os.length) rfl rfl rfl (by omega) (by omega) hcap) <| TrS.one (i := 4) (by kernel_rfl) rfl ?_
    refine qQ rfl rfl rfl (qG rfl (jG hx)) <| TrS.one (i := 5) (by kernel_rfl) rfl ?_
    refine qp rfl rfl rfl (w5 rfl rfl rfl) ?_
    rintro t40 _ ⟨b40, rfl, rfl⟩
    refine TrS.one (i := 6) (by kernel_rfl) rfl ?_
    refine qp rfl rfl rfl (wP (m := 1) (sz := 1) rfl rfl hs2 (wQ (ys := iV [x]) inferInstance rfl rfl) rfl Tryz.underlying39 rfl rfl (by omega)) ?_
    rintro t41 _ ⟨C2, hs3, rfl⟩
    refine TrS.one (i := 10) (by kernel_rfl) rfl ?_
    refine qp rfl rfl rfl (wP (m := os.length - k) (sz := 1) rfl rfl hs3 (QL (l := k) (h := os.length) hsl (by omega) (by omega)) (by rw [xy]; exact x3 _) Tryz.underlying39 rfl rfl (by omega)) ?_
    rintro t45 _ ⟨C4, hs4, rfl⟩
    refine TrS.take 11 rfl rfl (by kernel_rfl) rfl (wA rfl) ?_
    refine qy (by kernel_rfl) ?_
    refine QAt.block <| QAt.seq <| Tr.region <| q9 (qA rfl) <| q9 (qj rfl rfl (by omega)) <| q9 (qC rfl) <| qB <| qh ⟨(i + 1, t45, C4, xx x os), ?_⟩ ?_ ?_
    ·
     try dsimp only
     have e := YO x os k hk hle hgt
     have el : (xx x os).length = k + 1 + (os.length - k) := by rw [← e]; simp; omega
     have ev : iV (os.take k ++ [x] ++ os.drop k) = iV (os.take k) ++ iV [x] ++ ((iV os).drop (k * 1)).take ((os.length - k) * 1) := by rw [xy, Nat.mul_one, Nat.mul_one, List.take_of_length_le (l := os.drop k) (by rw [List.length_drop]; omega)]; simp [iV]
     refine ⟨by omega, by rw [el, ← e, ev]; exact hs4, ?_⟩
     rw [hos]; unfold WB; rw [List.take_add_one, hx, List.foldl_append]; rfl
    · (try dsimp only); omega
    · (try dsimp only); exact qP _
  ·
   refine Tr.exit <| qX <| qY <| qS <| QAt.seq <| Tr.seq ?_
   obtain rfl : i = xs.length := by omega
   rw [List.take_length, insAll_srt] at hos
   subst hos
   refine Tr.region <| q9 (qA rfl) <| q9 (qC rfl) <| qB <| QAt.seq <| Tr.ret <| qs (Co :: C :: F) (.inl rfl) rfl (qd rfl) ?_
   exact ⟨Co, hsl, rfl⟩
def nz (l : List Int) : List Int := l.filter (fun a => decide (a ≠ 0))
theorem part_rng {k : Int × Int} (h : qo k) : 1 ≤ k.1 ∧ k.1 ≤ 5 ∧ 0 ≤ k.2 ∧ (k.1 = 1 → k.2 < 1064) ∧ (k.1 = 5 → k.2 < 32) ∧ (1 < k.1 → k.1 < 5 → k.2 = 0) := by
  rcases h with ⟨h, h1, h2⟩ | rfl | rfl | rfl | ⟨h, h1, h2⟩
  · omega
  · decide
  · decide
  · decide
  · omega
theorem xo (W : RS) : (zf W).length ≤ 1100 := by
  have h1 := jl W 1064 (by omega)
  have h2 := Qc W 32 (by omega)
  have h3 : (sgP W).length ≤ 1 := by unfold sgP; split <;> simp
  have h4 : (dbP W).length ≤ 1 := by unfold dbP; split <;> simp
  have h5 : (Y1 W).length ≤ 1 := by unfold Y1; split <;> simp
  unfold zf; simp only [List.length_append]; omega
def jv (W : RS) (k : Int × Int) (a : Int) : Prop := a ≠ 0 ∧ qZ W k = a ∧ k ∉ zf W
instance (W : RS) (k : Int × Int) (a : Int) : Decidable (jv W k a) := by unfold jv; infer_instance
theorem rlive_ok (W : RS) (v : List Value) (C : qM) (hw : RefC ba bl W v C) (k : Int × Int) (hk : qo k) (a : Int) :
    FnT Tryz.prog w0 33 #[.agg v.toArray, .agg (Qf W.num W.ver k).toArray, .int .i64 a] (C :: F) (fun v L' => v = .bool (decide (jv W k a)) ∧ L' = C :: F) := by
  obtain ⟨pg, cg, Cg, hv, hs, hC⟩ := hw.at
  have hvlen := hw.len
  have hkr := part_rng hk
  obtain ⟨l, hl⟩ : ∃ l, zf W = l := ⟨_, rfl⟩
  have hll : l.length ≤ 1100 := hl ▸ xo W
  unfold Qf
  refine FnT.enter (E0 := [(0, _), (1, _), (2, _)]) (N := 98) Tryz.func33 rfl rfl rfl rfl ?_
  refine Tr.seq <| Tr.region <| qF (wT rfl) ?_
  rintro t3 _ ⟨b3, rfl, rfl⟩
  refine qF (wT rfl) ?_
  rintro t4 _ ⟨b4, rfl, rfl⟩
  refine q9 (qC rfl) <| qB <| QAt.seq <| Tr.seq <| Tr.seq <| Tr.region <| q9 (qA rfl) <| q9 (wR rfl rfl) <| q9 (qA rfl) <| qN (s := 12) rfl (fun hg1_2 => ?_) (fun hg1_2 => ?_)
  ·
   refine qH rfl rfl rfl <| qH rfl rfl rfl <| qH rfl rfl rfl <| qH rfl rfl rfl <| qH rfl rfl rfl <| q9 (qT rfl rfl) <| q9 (qA rfl) <| qH rfl rfl rfl <| qH rfl rfl rfl <| qH rfl rfl rfl <| qH rfl rfl rfl <| qH rfl rfl rfl <| q9 (qT rfl rfl) <| q9 (qA rfl) <| qH rfl rfl rfl <| qH rfl rfl rfl <| qH rfl rfl rfl <| q9 (qT rfl rfl) <| q9 (qA rfl) <| qH rfl rfl rfl <| qH rfl rfl rfl <| qH rfl rfl rfl <| q9 (qT rfl rfl) <| q9 (qA rfl) <| qH rfl rfl rfl <| qH rfl rfl rfl <| qH rfl rfl rfl <| q9 (qT rfl rfl) <| qB <| QAt.seq <| ww rfl <| Tr.seq <| Tr.region <| q9 (qC rfl) <| qB <| QAt.seq <| Tr.ret <| qe <| qs (C :: F) (.inl rfl) rfl (qd rfl) ?_
   exact ⟨congrArg Value.bool (decide_eq_false (fun h : jv W k a => h.1 hg1_2)).symm, rfl⟩
  ·
   refine qE rfl rfl (qD rfl) <| qE rfl rfl (qG rfl rfl) <| qE rfl rfl (qD rfl) <| qE rfl rfl (qG rfl (show wG v 0 = some (.int .u32 W.num) by rw [hv]; rfl)) <| qE rfl rfl (wZ rfl rfl) <| q9 (qL rfl rfl) <| q9 (qA rfl) <| qN (s := 19) rfl (fun hg1_9 => ?_) (fun hg1_9 => ?_)
   · exact absurd rfl hg1_9
   ·
    refine qE rfl rfl (qD rfl) <| qE rfl rfl (qG rfl rfl) <| qE rfl rfl (qD rfl) <| qE rfl rfl (qG rfl (show wG v 1 = some (.int .u32 W.ver) by rw [hv]; rfl)) <| qE rfl rfl (wZ rfl rfl) <| q9 (qL rfl rfl) <| q9 (qA rfl) <| qN (s := 26) rfl (fun hg1_16 => ?_) (fun hg1_16 => ?_)
    · exact absurd rfl hg1_16
    ·
     refine qE rfl rfl (qD rfl) <| qE rfl rfl (qG rfl rfl) <| qE rfl rfl (qv rfl rfl) <| q9 (qL rfl rfl) <| q9 (qA rfl) <| qN (s := 31) rfl (fun hg1_21 => ?_) (fun hg1_21 => ?_)
     · (exfalso; omega)
     ·
      refine qE rfl rfl (qD rfl) <| qE rfl rfl (qG rfl rfl) <| qE rfl rfl (zd rfl rfl) <| q9 (qL rfl rfl) <| q9 (qA rfl) <| qN (s := 36) rfl (fun hg1_26 => ?_) (fun hg1_26 => ?_)
      · (exfalso; omega)
      ·
       refine qE rfl rfl (qD rfl) <| qE rfl rfl (qG rfl rfl) <| qE rfl rfl (qv rfl rfl) <| q9 (qL rfl rfl) <| qB <| QAt.seq <| qI rfl (fun hc1 => ?_) (fun hc1 => ?_)
       · (exfalso; omega)
       ·
        refine Tr.skip <| QAt.seq <| zA (Γ := {pΓ : (Nat) // (fun (z : Nat) => a ≠ 0) pΓ}) (fun g => (fun (z : Nat) => [(2, .int .i64 a), (3, .pointer (some ⟨b3, 0, none⟩)), (4, .pointer (some ⟨b4, 0, none⟩))]) g.1) (fun g => (fun (z : Nat) => [(b3, .cells v.toArray 41 (0, 0))] :: [(b4, .cells [.int .i64 k.1, .int .u32 W.num, .int .u32 W.ver, .int .i64 k.2].toArray 80 (0, 0))] :: C :: F) g.1) ?_ ?_
        ·
         refine Tr.seq <| Tr.region <| q9 (qD rfl) <| q9 (qG rfl rfl) <| q9 (wR rfl rfl) <| q9 (qA rfl) <| qN (s := 44) rfl (fun hg3_3 => ?_) (fun hg3_3 => ?_)
         ·
          refine qE rfl rfl (qD rfl) <| qE rfl rfl (qG rfl rfl) <| qE rfl rfl (yl rfl rfl) <| q9 (qT rfl rfl) <| q9 (qA rfl) <| qN (s := 49) rfl (fun hg3_8 => ?_) (fun hg3_8 => ?_)
          · (exfalso; omega)
          ·
           refine qE rfl rfl (qD rfl) <| qE rfl rfl (qG rfl rfl) <| qE rfl rfl (wR rfl rfl) <| qE rfl rfl (qA rfl) <| qN (s := 53) rfl (fun hg3_12 => ?_) (fun hg3_12 => ?_)
           ·
            refine qE rfl rfl (qD rfl) <| qE rfl rfl (qG rfl rfl) <| qE rfl rfl (yl rfl rfl) <| qE rfl rfl (qT rfl rfl) <| q9 (qL rfl rfl) <| q9 (qA rfl) <| qN (s := 59) rfl (fun hg3_18 => ?_) (fun hg3_18 => ?_)
            · (exfalso; omega)
            ·
             refine qE rfl rfl (qD rfl) <| qE rfl rfl (qG rfl rfl) <| qE rfl rfl (zd rfl rfl) <| qE rfl rfl (qA rfl) <| qN (s := 63) rfl (fun hg3_22 => ?_) (fun hg3_22 => ?_)
             ·
              refine qE rfl rfl (qD rfl) <| qE rfl rfl (qG rfl rfl) <| qE rfl rfl (qv rfl rfl) <| qE rfl rfl (qT rfl rfl) <| qE rfl rfl (qA rfl) <| qN (s := 68) rfl (fun hg3_27 => ?_) (fun hg3_27 => ?_)
              ·
               refine qE rfl rfl (qD rfl) <| qE rfl rfl (qG rfl rfl) <| qE rfl rfl (wZ rfl rfl) <| qE rfl rfl (qT rfl rfl) <| q9 (qL rfl rfl) <| qB <| QAt.seq <| qI rfl (fun hc3 => ?_) (fun hc3 => ?_)
               · (exfalso; omega)
               ·
                refine Tr.skip <| qO ⟨0, ?_⟩ ?_
                · (try dsimp only); assumption
                · (try dsimp only); exact qP _
              ·
               refine qH rfl rfl rfl <| qH rfl rfl rfl <| qH rfl rfl rfl <| qE rfl rfl (qL rfl rfl) <| q9 (qL rfl rfl) <| qB <| QAt.seq <| wD rfl <| Tr.skip <| qO ⟨0, ?_⟩ ?_
               · (try dsimp only); assumption
               · (try dsimp only); exact qP _
             ·
              refine qH rfl rfl rfl <| qH rfl rfl rfl <| qH rfl rfl rfl <| qE rfl rfl (qL rfl rfl) <| qE rfl rfl (qA rfl) <| qH rfl rfl rfl <| qH rfl rfl rfl <| qH rfl rfl rfl <| qE rfl rfl (qL rfl rfl) <| q9 (qL rfl rfl) <| qB <| QAt.seq <| wD rfl <| Tr.skip <| qO ⟨0, ?_⟩ ?_
              · (try dsimp only); assumption
              · (try dsimp only); exact qP _
           ·
            refine qH rfl rfl rfl <| qH rfl rfl rfl <| qH rfl rfl rfl <| qE rfl rfl (qL rfl rfl) <| q9 (qL rfl rfl) <| q9 (qA rfl) <| qE rfl rfl (qD rfl) <| qE rfl rfl (qG rfl rfl) <| qE rfl rfl (zd rfl rfl) <| qE rfl rfl (qA rfl) <| qN (s := 63) rfl (fun hg3_22 => ?_) (fun hg3_22 => ?_)
            ·
             refine qE rfl rfl (qD rfl) <| qE rfl rfl (qG rfl rfl) <| qE rfl rfl (qv rfl rfl) <| qE rfl rfl (qT rfl rfl) <| qE rfl rfl (qA rfl) <| qN (s := 68) rfl (fun hg3_27 => ?_) (fun hg3_27 => ?_)
             ·
              refine qE rfl rfl (qD rfl) <| qE rfl rfl (qG rfl rfl) <| qE rfl rfl (wZ rfl rfl) <| qE rfl rfl (qT rfl rfl) <| q9 (qL rfl rfl) <| qB <| QAt.seq <| qI rfl (fun hc3 => ?_) (fun hc3 => ?_)
              · (exfalso; omega)
              ·
               refine Tr.skip <| qO ⟨0, ?_⟩ ?_
               · (try dsimp only); assumption
               · (try dsimp only); exact qP _
             ·
              refine qH rfl rfl rfl <| qH rfl rfl rfl <| qH rfl rfl rfl <| qE rfl rfl (qL rfl rfl) <| q9 (qL rfl rfl) <| qB <| QAt.seq <| wD rfl <| Tr.skip <| qO ⟨0, ?_⟩ ?_
              · (try dsimp only); assumption
              · (try dsimp only); exact qP _
            ·
             refine qH rfl rfl rfl <| qH rfl rfl rfl <| qH rfl rfl rfl <| qE rfl rfl (qL rfl rfl) <| qE rfl rfl (qA rfl) <| qH rfl rfl rfl <| qH rfl rfl rfl <| qH rfl rfl rfl <| qE rfl rfl (qL rfl rfl) <| q9 (qL rfl rfl) <| qB <| QAt.seq <| wD rfl <| Tr.skip <| qO ⟨0, ?_⟩ ?_
             · (try dsimp only); assumption
             · (try dsimp only); exact qP _
         ·
          refine qH rfl rfl rfl <| qH rfl rfl rfl <| qH rfl rfl rfl <| q9 (qL rfl rfl) <| q9 (qA rfl) <| qE rfl rfl (qD rfl) <| qE rfl rfl (qG rfl rfl) <| qE rfl rfl (wR rfl rfl) <| qE rfl rfl (qA rfl) <| qN (s := 53) rfl (fun hg3_12 => ?_) (fun hg3_12 => ?_)
          ·
           refine qE rfl rfl (qD rfl) <| qE rfl rfl (qG rfl rfl) <| qE rfl rfl (yl rfl rfl) <| qE rfl rfl (qT rfl rfl) <| q9 (qL rfl rfl) <| q9 (qA rfl) <| qN (s := 59) rfl (fun hg3_18 => ?_) (fun hg3_18 => ?_)
           · (exfalso; omega)
           ·
            refine qE rfl rfl (qD rfl) <| qE rfl rfl (qG rfl rfl) <| qE rfl rfl (zd rfl rfl) <| qE rfl rfl (qA rfl) <| qN (s := 63) rfl (fun hg3_22 => ?_) (fun hg3_22 => ?_)
            ·
             refine qE rfl rfl (qD rfl) <| qE rfl rfl (qG rfl rfl) <| qE rfl rfl (qv rfl rfl) <| qE rfl rfl (qT rfl rfl) <| qE rfl rfl (qA rfl) <| qN (s := 68) rfl (fun hg3_27 => ?_) (fun hg3_27 => ?_)
             ·
              refine qE rfl rfl (qD rfl) <| qE rfl rfl (qG rfl rfl) <| qE rfl rfl (wZ rfl rfl) <| qE rfl rfl (qT rfl rfl) <| q9 (qL rfl rfl) <| qB <| QAt.seq <| qI rfl (fun hc3 => ?_) (fun hc3 => ?_)
              · (exfalso; omega)
              ·
               refine Tr.skip <| qO ⟨0, ?_⟩ ?_
               · (try dsimp only); assumption
               · (try dsimp only); exact qP _
             ·
              refine qH rfl rfl rfl <| qH rfl rfl rfl <| qH rfl rfl rfl <| qE rfl rfl (qL rfl rfl) <| q9 (qL rfl rfl) <| qB <| QAt.seq <| wD rfl <| Tr.skip <| qO ⟨0, ?_⟩ ?_
              · (try dsimp only); assumption
              · (try dsimp only); exact qP _
            ·
             refine qH rfl rfl rfl <| qH rfl rfl rfl <| qH rfl rfl rfl <| qE rfl rfl (qL rfl rfl) <| qE rfl rfl (qA rfl) <| qH rfl rfl rfl <| qH rfl rfl rfl <| qH rfl rfl rfl <| qE rfl rfl (qL rfl rfl) <| q9 (qL rfl rfl) <| qB <| QAt.seq <| wD rfl <| Tr.skip <| qO ⟨0, ?_⟩ ?_
             · (try dsimp only); assumption
             · (try dsimp only); exact qP _
          ·
           refine qH rfl rfl rfl <| qH rfl rfl rfl <| qH rfl rfl rfl <| qE rfl rfl (qL rfl rfl) <| q9 (qL rfl rfl) <| q9 (qA rfl) <| qE rfl rfl (qD rfl) <| qE rfl rfl (qG rfl rfl) <| qE rfl rfl (zd rfl rfl) <| qE rfl rfl (qA rfl) <| qN (s := 63) rfl (fun hg3_22 => ?_) (fun hg3_22 => ?_)
           ·
            refine qE rfl rfl (qD rfl) <| qE rfl rfl (qG rfl rfl) <| qE rfl rfl (qv rfl rfl) <| qE rfl rfl (qT rfl rfl) <| qE rfl rfl (qA rfl) <| qN (s := 68) rfl (fun hg3_27 => ?_) (fun hg3_27 => ?_)
            ·
             refine qE rfl rfl (qD rfl) <| qE rfl rfl (qG rfl rfl) <| qE rfl rfl (wZ rfl rfl) <| qE rfl rfl (qT rfl rfl) <| q9 (qL rfl rfl) <| qB <| QAt.seq <| qI rfl (fun hc3 => ?_) (fun hc3 => ?_)
             · (exfalso; omega)
             ·
              refine Tr.skip <| qO ⟨0, ?_⟩ ?_
              · (try dsimp only); assumption
              · (try dsimp only); exact qP _
            ·
             refine qH rfl rfl rfl <| qH rfl rfl rfl <| qH rfl rfl rfl <| qE rfl rfl (qL rfl rfl) <| q9 (qL rfl rfl) <| qB <| QAt.seq <| wD rfl <| Tr.skip <| qO ⟨0, ?_⟩ ?_
             · (try dsimp only); assumption
             · (try dsimp only); exact qP _
           ·
            refine qH rfl rfl rfl <| qH rfl rfl rfl <| qH rfl rfl rfl <| qE rfl rfl (qL rfl rfl) <| qE rfl rfl (qA rfl) <| qH rfl rfl rfl <| qH rfl rfl rfl <| qH rfl rfl rfl <| qE rfl rfl (qL rfl rfl) <| q9 (qL rfl rfl) <| qB <| QAt.seq <| wD rfl <| Tr.skip <| qO ⟨0, ?_⟩ ?_
            · (try dsimp only); assumption
            · (try dsimp only); exact qP _
        rintro ⟨z, hcut⟩
        replace hcut : a ≠ 0 := hcut
        have ha := hcut
        show Tr _ _ _ ([(2, .int .i64 a), (3, .pointer (some ⟨b3, 0, none⟩)), (4, .pointer (some ⟨b4, 0, none⟩))]) ([(b3, .cells v.toArray 41 (0, 0))] :: [(b4, .cells [.int .i64 k.1, .int .u32 W.num, .int .u32 W.ver, .int .i64 k.2].toArray 80 (0, 0))] :: C :: F) _ _
        refine Tr.seq <| Tr.region <| q9 (qD rfl) <| q9 (qG rfl rfl) <| q9 (qD rfl) <| q9 (qG rfl rfl) <| q9 (wF rfl) <| qF (qV) ?_
        rintro t7 _ ⟨b7, rfl, rfl⟩
        refine qK (wJ rfl rfl rfl rfl) <| qB <| QAt.seq <| Tr.seq <| Tr.region <| q9 (w7 rfl hvlen) <| qF (qn rfl (wM (C) (xf W v C hw))) ?_
        rintro t80 _ ⟨Cp, hsp, rfl⟩
        refine q9 (qC rfl) <| qB ?_
        rw [hl] at hsp
        obtain ⟨pp, cp, hvp⟩ := hsp.slice
        refine QAt.seq <| Tr.seq <| Tr.seq <| Tr.region <| q9 (qC rfl) <| qB <| QAt.seq <| Tr.block <| wB (Γ := {pΓ : (Nat) // (fun (i : Nat) => i ≤ l.length ∧ k ∉ l.take i) pΓ}) (fun g => (fun (i : Nat) => [(2, .int .i64 a), (3, .pointer (some ⟨b3, 0, none⟩)), (7, .pointer (some ⟨b7, 0, none⟩)), (8, t80), (9, .int .i64 i)]) g.1) (fun g => (fun (i : Nat) => Cp :: [(b7, .cells [.int .i64 k.1, .int .i64 k.2].toArray 65 (0, 0))] :: [(b3, .cells v.toArray 41 (0, 0))] :: C :: F) g.1) (fun g => (fun (i : Nat) => l.length - i) g.1) ⟨0, by dsimp only; exact ⟨by omega, by simp⟩⟩ (qP _) ?_
        rintro ⟨i, hloop⟩
        replace hloop : i ≤ l.length ∧ k ∉ l.take i := hloop
        obtain ⟨hi, hn⟩ := hloop
        show Tr _ _ _ ([(2, .int .i64 a), (3, .pointer (some ⟨b3, 0, none⟩)), (7, .pointer (some ⟨b7, 0, none⟩)), (8, t80), (9, .int .i64 i)]) (Cp :: [(b7, .cells [.int .i64 k.1, .int .i64 k.2].toArray 65 (0, 0))] :: [(b3, .cells v.toArray 41 (0, 0))] :: C :: F) _ _
        refine Tr.seq <| Tr.seq <| Tr.region <| q9 (qA rfl) <| q9 (qA rfl) <| q9 (qg (by rw [hvp]; rfl)) ?_
        refine q9 (qv rfl rfl) <| qB <| QAt.seq <| qI rfl (fun hc8 => ?_) (fun hc8 => ?_)
        ·
         refine Tr.skip <| QAt.seq <| Tr.seq <| Tr.block <| Tr.seq ?_
         obtain ⟨q, hq⟩ : ∃ q, l[i]? = some q := ⟨_, List.getElem?_eq_getElem (by omega)⟩
         rcases hsp with ⟨-, h0, -⟩ | ⟨bp, cap, spare, rfl, hcs, rfl, hcap, hnc⟩
         · omega
         refine Tr.drawn qm <| qr [(87, .pure _), (88, .pure _), (89, .pure _), (90, .pure _), (91, .pure _)] (by kernel_rfl) rfl rfl rfl wL (ParH.pure rfl (fun X => qA rfl) <| ParH.pure rfl (fun X => qA rfl) <| ParH.pure rfl (fun X => qf (j := i) (off := i * 2) rfl rfl rfl (by omega) (by simp)) <| ParH.pure rfl (fun X => wk (j := i) zb rfl hq rfl) <| ParH.pure rfl (fun X => wE rfl) <| ParH.nil rfl) ?_
         dsimp only [zG, List.drop, List.length]
         refine qq (by kernel_rfl) (WQ rfl rfl) ?_
         refine qt <| QAt.seq <| qI rfl (fun hc10 => ?_) (fun hc10 => ?_)
         ·
          refine Tr.seq <| Tr.region <| q9 (qC rfl) <| qB <| QAt.seq <| Tr.ret <| qu <| qe <| yb <| qu <| qe <| qs (C :: F) (.inl rfl) rfl (qd rfl) ?_
          exact ⟨congrArg Value.bool (decide_eq_false (fun h : jv W k a => h.2.2 (by rw [hl, ← JD.1 hc10]; exact List.mem_of_getElem? hq))).symm, rfl⟩
         ·
          refine Tr.skip <| QAt.block <| QAt.seq <| Tr.region <| q9 (qA rfl) <| q9 (qj rfl rfl (by omega)) <| q9 (qC rfl) <| qB <| qh ⟨i + 1, ?_⟩ ?_ ?_
          ·
           try dsimp only
           refine ⟨by omega, ?_⟩
           rw [List.take_add_one, hq, List.mem_append]
           rintro (h | h)
           · exact hn h
           · have e : k = q := by simpa using h
             exact hc10 (by rw [e])
          · (try dsimp only); omega
          · (try dsimp only); exact qP _
        ·
         refine Tr.exit <| qX <| qY <| qS <| QAt.seq <| Tr.seq ?_
         rw [List.take_of_length_le (by omega)] at hn
         refine Tr.region <| q9 (w7 rfl hvlen) <| q9 (wE rfl) <| q9 (qw rfl (zM (C) (KP W v C hw k hk))) <| q9 (qA rfl) <| q9 (wR rfl rfl) <| q9 (qC rfl) <| qB <| QAt.seq <| Tr.ret <| qs (C :: F) (.inl rfl) rfl (qd rfl) ?_
         exact ⟨congrArg Value.bool (decide_eq_decide.2 ⟨fun h => ⟨ha, h, by rw [hl]; exact hn⟩, fun h => h.2.1⟩), rfl⟩
def ws : List (Int × Int) → List Int → RS × List Int → RS × List Int
  | k :: l, a :: bs, s => ws l bs (yu s.1 k a, if qZ s.1 k ≠ 0 then s.2 ++ [qZ s.1 k] else s.2)
  | _, _, s => s
theorem kx (bs : List Int) (s : RS × List Int) : ws [] bs s = s := by cases bs <;> rfl
theorem commitFR_step {l : List (Int × Int)} {bs : List Int} {i : Nat} {k : Int × Int} {a : Int} (hk : l[i]? = some k) (ha : bs[i]? = some a) (s : RS × List Int) :
    ws (l.drop i) (bs.drop i) s = ws (l.drop (i + 1)) (bs.drop (i + 1)) (yu s.1 k a, if qZ s.1 k ≠ 0 then s.2 ++ [qZ s.1 k] else s.2) := by
  rw [yo hk, yo ha, ws]
def yQ (W : RS) (bs : List Int) : RS := (ws (zf W) bs (W, W.gone)).1
def x6 (W : RS) (bs : List Int) : List Int := (ws (zf W) bs (W, W.gone)).2
def lvT (W : RS) (k : Nat) : Int → zk := fun j => if 0 ≤ j ∧ j < k then ⟨(W.leaves j).at_, false⟩ else W.leaves j
theorem lvT_step (W : RS) (k : Nat) : upd (lvT W k) (k : Int) ⟨(W.leaves k).at_, false⟩ = lvT W (k + 1) := by
  funext j; unfold upd lvT
  by_cases e : j = k
  · subst e; rw [if_pos rfl, if_pos (by omega)]
  · rw [if_neg e]
    by_cases h : 0 ≤ j ∧ j < k
    · rw [if_pos h, if_pos (by omega)]
    · rw [if_neg h, if_neg (by omega)]
theorem lvT_at (W : RS) (k : Nat) : lvT W k k = W.leaves k := by unfold lvT; rw [if_neg (by omega)]
def Wv (W : RS) : RS := { W with gone := [], sg := ⟨W.sg.at_, false⟩, db := ⟨W.db.at_, false⟩, self := ⟨W.self.at_, false⟩, leaves := lvT W 32 }
def wm (W : RS) (bs : List Int) : RS := Wv (yQ W bs)
theorem Wo {W : RS} {k : Int × Int} (h : k ∈ zf W) : qo k := by
  unfold zf at h
  simp only [List.mem_append] at h
  have hn : ∀ (n i : Nat) (j : Int), j ∈ (zR n).take i → 0 ≤ j ∧ j < n := fun n i j hj => by
    have := List.mem_of_mem_take hj
    unfold zR at this
    obtain ⟨a, ha, rfl⟩ := List.mem_map.1 this
    have := List.mem_range.1 ha
    omega
  rcases h with (((h | h) | h) | h) | h
  · unfold y2 at h
    obtain ⟨j, hj, rfl⟩ := List.mem_map.1 h
    have := hn _ _ _ (List.mem_filter.1 hj).1
    exact .inl ⟨rfl, this.1, this.2⟩
  · unfold kH at h
    obtain ⟨j, hj, rfl⟩ := List.mem_map.1 h
    have := hn _ _ _ (List.mem_filter.1 hj).1
    exact .inr (.inr (.inr (.inr ⟨rfl, this.1, this.2⟩)))
  · unfold sgP at h; split at h
    · obtain rfl : k = (3, 0) := by simpa using h
      exact .inr (.inr (.inl rfl))
    · cases h
  · unfold dbP at h; split at h
    · obtain rfl : k = (4, 0) := by simpa using h
      exact .inr (.inr (.inr (.inl rfl)))
    · cases h
  · unfold Y1 at h; split at h
    · obtain rfl : k = (2, 0) := by simpa using h
      exact .inr (.inl rfl)
    · cases h
theorem rcommit_ok (W : RS) (v : List Value) (C Cb : qM) (hw : RefC ba bl W v C) (ua : Value) (bs : List Int) (hat : SlC 3 1 ua bs.length (iV bs) Cb) (hlen : (zf W).length = bs.length)
    (hr : ∀ a ∈ bs, 1 ≤ a ∧ a ≤ 65535) (hok : ROk (yQ W bs)) (hgl : W.gone.length ≤ 800000) :
    FnT Tryz.prog w0 45 #[.agg v.toArray, ua] (C :: Cb :: F) (fun v L' => ∃ l up us ud C' Cp Cs Cd, v = .tuple #[.agg l.toArray, up, us, ud, .int .i64 0] ∧ RefC ba bl (wm W bs) l C' ∧
      SlC 65 2 up (zf W).length ((zf W).flatMap wt) Cp ∧ SlC 54 128 us (zf W).length ((zf W).flatMap (fun k => wW (wd (yQ W bs) k))) Cs ∧
      SlC 3 1 ud (srt (x6 W bs)).length (iV (srt (x6 W bs))) Cd ∧ L' = C' :: Cp :: Cs :: Cd :: Cb :: F) := by
  have hvlen := hw.len
  obtain ⟨pu, cu, hu⟩ := hat.slice
  obtain ⟨l, hl⟩ : ∃ l, zf W = l := ⟨_, rfl⟩
  have hlp : ∀ k ∈ l, qo k := fun k hk => Wo (hl ▸ hk)
  have hll : l.length ≤ 1100 := hl ▸ xo W
  obtain ⟨m, hm⟩ : ∃ m, yQ W bs = m := ⟨_, rfl⟩
  obtain ⟨C0, Cg, pg, cg, h0, rfl, hv, hs⟩ := hw.split
  rw [hl] at hlen
  simp only [hl, hm]
  rw [hm] at hok
  refine FnT.enter (E0 := [(0, _), (1, _)]) (N := 114) Tryz.func45 rfl rfl rfl rfl ?_
  refine Tr.seq <| Tr.region <| qF (wT rfl) ?_
  rintro t2 _ ⟨b2, rfl, rfl⟩
  refine qF (qV) ?_
  rintro t4 _ ⟨b4, rfl, rfl⟩
  refine q9 (qC rfl) <| q9 (qC rfl) <| q9 (qC rfl) <| q9 (qC rfl) <| qB <| QAt.seq <| Tr.seq <| Tr.region <| q9 (w7 rfl hvlen) <| qF (qn rfl (wM (C0 ++ Cg) (xf W v _ hw))) ?_
  rintro t19 _ ⟨Cp, hsp, rfl⟩
  refine q9 (qC rfl) <| qB ?_
  rw [hl] at hsp
  obtain ⟨pp, cp, hvp⟩ := hsp.slice
  refine QAt.seq <| Tr.seq <| Tr.region <| q9 (qA rfl) <| q9 (qg (by rw [hvp]; rfl)) ?_
  refine q9 (qA rfl) <| q9 (qg (by rw [hu]; rfl)) ?_
  refine q9 (wZ rfl rfl) <| q9 (qC rfl) <| qB ?_
  rw [decide_eq_false (show ¬ ((l.length : Int) ≠ bs.length) by omega)]
  refine QAt.seq <| Tr.seq <| Tr.seq <| Tr.region <| q9 (qC rfl) <| qB <| QAt.seq <| Tr.block <| wB (Γ := {pΓ : (Nat) × (Bool) // (fun (i : Nat) (bd : Bool) => i ≤ bs.length ∧ bd = false) pΓ.1 pΓ.2}) (fun g => (fun (i : Nat) (bd : Bool) => [(1, ua), (2, .pointer (some ⟨b2, 0, none⟩)), (4, .pointer (some ⟨b4, 0, none⟩)), (9, t19), (10, .bool bd), (11, .int .i64 i)]) g.1.1 g.1.2) (fun g => (fun (i : Nat) (bd : Bool) => Cp :: [(b2, .cells v.toArray 41 (0, 0))] :: [(b4, .cells node0V.toArray 41 (0, 0))] :: (C0 ++ Cg) :: Cb :: F) g.1.1 g.1.2) (fun g => (fun (i : Nat) (bd : Bool) => bs.length - i) g.1.1 g.1.2) ⟨(0, false), by dsimp only; exact ⟨by omega, rfl⟩⟩ (qP _) ?_
  rintro ⟨⟨i, bd⟩, hloop⟩
  replace hloop : i ≤ bs.length ∧ bd = false := hloop
  obtain ⟨hi, hbd⟩ := hloop
  show Tr _ _ _ ([(1, ua), (2, .pointer (some ⟨b2, 0, none⟩)), (4, .pointer (some ⟨b4, 0, none⟩)), (9, t19), (10, .bool bd), (11, .int .i64 i)]) (Cp :: [(b2, .cells v.toArray 41 (0, 0))] :: [(b4, .cells node0V.toArray 41 (0, 0))] :: (C0 ++ Cg) :: Cb :: F) _ _
  refine Tr.seq <| Tr.seq <| Tr.region <| q9 (qA rfl) <| q9 (qA rfl) <| q9 (qg (by rw [hu]; rfl)) ?_
  refine q9 (qv rfl rfl) <| qB <| QAt.seq <| qI rfl (fun hc4 => ?_) (fun hc4 => ?_)
  ·
   refine Tr.skip <| QAt.seq <| Tr.seq <| Tr.block ?_
   obtain ⟨a, ha⟩ : ∃ a, bs[i]? = some a := ⟨_, List.getElem?_eq_getElem (by omega)⟩
   have har := hr a (List.mem_of_getElem? ha)
   rcases hat with ⟨-, h0, -⟩ | ⟨bA, capA, spA, rfl, hcsA, rfl, hcapA, hncA⟩
   · omega
   refine Tr.region <| q9 (qA rfl) <| q9 (qA rfl) <| TrOs.split (s := 32) rfl (fun hg6_1 => ?_) (fun hg6_1 => ?_)
   · (rw [hbd] at hg6_1; cases hg6_1)
   ·
    refine qE rfl rfl (qA rfl) <| qE rfl rfl (qA rfl) <| qE rfl rfl (qf (j := i) (off := i * 1) rfl rfl rfl (by omega) (by simp)) ?_
    refine qE rfl rfl (qG rfl (jG ha)) <| qE rfl rfl (qv rfl rfl) <| q9 (qL rfl rfl) <| q9 (qA rfl) <| qN (s := 39) rfl (fun hg6_8 => ?_) (fun hg6_8 => ?_)
    · (exfalso; omega)
    ·
     refine qE rfl rfl (qA rfl) <| qE rfl rfl (qA rfl) <| qE rfl rfl (qf (j := i) (off := i * 1) rfl rfl rfl (by omega) (by simp)) ?_
     refine qE rfl rfl (qG rfl (jG ha)) <| qE rfl rfl (zd rfl rfl) <| q9 (qL rfl rfl) <| q9 (qC rfl) <| qB <| QAt.block <| QAt.seq <| Tr.region <| q9 (qA rfl) <| q9 (qj rfl rfl (by omega)) <| q9 (qC rfl) <| qB <| qh ⟨(i + 1, _), ?_⟩ ?_ ?_
     · (try dsimp only); exact ⟨by omega, decide_eq_false (by omega)⟩
     · (try dsimp only); omega
     · (try dsimp only); exact qP _
  ·
   refine Tr.exit <| qX <| qY <| qS <| QAt.seq <| Tr.seq <| Tr.seq <| Tr.region <| q9 (qA rfl) <| qB <| QAt.seq <| Tr.cond rfl (fun hc7 => ?_) (fun hc7 => ?_)
   · (rw [hbd] at hc7; cases hc7)
   ·
    refine Tr.skip <| QAt.seq <| Tr.seq <| yW (L' := Cg :: [(b2, .cells v.toArray 41 (0, 0))] :: [(b4, .cells node0V.toArray 41 (0, 0))] :: C0 :: Cp :: Cb :: F) (yI (by intro f; simp only [List.flatten_cons, List.flatten_nil, List.append_nil, List.countP_append, List.countP_cons, List.countP_nil]; omega)) ?_
    refine Tr.region <| q9 (qD rfl) <| q9 (qG rfl (show wG v 13 = some (.slice pg W.gone.length cg) by rw [hv]; rfl)) <| q9 (qC rfl) <| qB <| QAt.seq <| Tr.seq <| Tr.seq <| Tr.region <| q9 (qC rfl) <| qB <| QAt.seq <| Tr.block <| wB (Γ := {pΓ : (Nat) × (RS) × (List Value) × (qM) × (List Int) × (Value) × (qM) // (fun (i : Nat) (X : RS) (vX : List Value) (CX : qM) (ds : List Int) (ud : Value) (Cd : qM) => i ≤ l.length ∧ RefC0 ba bl X vX CX ∧ SlC 3 1 ud ds.length (iV ds) Cd ∧ ds.length ≤ 800000 + i ∧ ws (l.drop i) (bs.drop i) (X, ds) = ws l bs (W, W.gone)) pΓ.1 pΓ.2.1 pΓ.2.2.1 pΓ.2.2.2.1 pΓ.2.2.2.2.1 pΓ.2.2.2.2.2.1 pΓ.2.2.2.2.2.2}) (fun g => (fun (i : Nat) (X : RS) (vX : List Value) (CX : qM) (ds : List Int) (ud : Value) (Cd : qM) => [(1, ua), (2, .pointer (some ⟨b2, 0, none⟩)), (4, .pointer (some ⟨b4, 0, none⟩)), (9, t19), (12, ud), (13, .int .i64 i)]) g.1.1 g.1.2.1 g.1.2.2.1 g.1.2.2.2.1 g.1.2.2.2.2.1 g.1.2.2.2.2.2.1 g.1.2.2.2.2.2.2) (fun g => (fun (i : Nat) (X : RS) (vX : List Value) (CX : qM) (ds : List Int) (ud : Value) (Cd : qM) => Cd :: [(b2, .cells vX.toArray 41 (0, 0))] :: [(b4, .cells node0V.toArray 41 (0, 0))] :: CX :: Cp :: Cb :: F) g.1.1 g.1.2.1 g.1.2.2.1 g.1.2.2.2.1 g.1.2.2.2.2.1 g.1.2.2.2.2.2.1 g.1.2.2.2.2.2.2) (fun g => (fun (i : Nat) (X : RS) (vX : List Value) (CX : qM) (ds : List Int) (ud : Value) (Cd : qM) => l.length - i) g.1.1 g.1.2.1 g.1.2.2.1 g.1.2.2.2.1 g.1.2.2.2.2.1 g.1.2.2.2.2.2.1 g.1.2.2.2.2.2.2) ⟨(0, W, v, C0, W.gone, _, Cg), by dsimp only; exact ⟨by omega, h0, hs, by omega, rfl⟩⟩ (qP _) ?_
    rintro ⟨⟨i, X, vX, CX, ds, ud, Cd⟩, hloop⟩
    replace hloop : i ≤ l.length ∧ RefC0 ba bl X vX CX ∧ SlC 3 1 ud ds.length (iV ds) Cd ∧ ds.length ≤ 800000 + i ∧ ws (l.drop i) (bs.drop i) (X, ds) = ws l bs (W, W.gone) := hloop
    obtain ⟨hi, hX, hsd, hdl, hcf⟩ := hloop
    show Tr _ _ _ ([(1, ua), (2, .pointer (some ⟨b2, 0, none⟩)), (4, .pointer (some ⟨b4, 0, none⟩)), (9, t19), (12, ud), (13, .int .i64 i)]) (Cd :: [(b2, .cells vX.toArray 41 (0, 0))] :: [(b4, .cells node0V.toArray 41 (0, 0))] :: CX :: Cp :: Cb :: F) _ _
    refine Tr.seq <| Tr.seq <| Tr.region <| q9 (qA rfl) <| q9 (qA rfl) <| q9 (qg (by rw [hvp]; rfl)) ?_
    refine q9 (qv rfl rfl) <| qB <| QAt.seq <| qI rfl (fun hc11 => ?_) (fun hc11 => ?_)
    ·
     obtain ⟨k, hk⟩ : ∃ k, l[i]? = some k := ⟨_, List.getElem?_eq_getElem (by omega)⟩
     obtain ⟨a, ha⟩ : ∃ a, bs[i]? = some a := ⟨_, List.getElem?_eq_getElem (by omega)⟩
     rw [commitFR_step hk ha] at hcf
     have hkp := hlp k (List.mem_of_getElem? hk)
     rcases hsp with ⟨-, h0', -⟩ | ⟨bP, capP, spP, rfl, hcsP, rfl, hcapP, hncP⟩
     · omega
     rcases hat with ⟨-, h0', -⟩ | ⟨bA, capA, spA, rfl, hcsA, rfl, hcapA, hncA⟩
     · omega
     refine Tr.skip <| QAt.seq <| zA (Γ := {pΓ : (RS) × (List Value) × (qM) × (List Int) × (Value) × (qM) // (fun (X2 : RS) (vX2 : List Value) (CX2 : qM) (ds3 : List Int) (ud3 : Value) (Cd3 : qM) => RefC0 ba bl X2 vX2 CX2 ∧ SlC 3 1 ud3 ds3.length (iV ds3) Cd3 ∧ ds3.length ≤ 800001 + i ∧ ws (l.drop (i + 1)) (bs.drop (i + 1)) (X2, ds3) = ws l bs (W, W.gone)) pΓ.1 pΓ.2.1 pΓ.2.2.1 pΓ.2.2.2.1 pΓ.2.2.2.2.1 pΓ.2.2.2.2.2}) (fun g => (fun (X2 : RS) (vX2 : List Value) (CX2 : qM) (ds3 : List Int) (ud3 : Value) (Cd3 : qM) => [(1, .slice (some ⟨bA, 0, none⟩) bs.length capA), (2, .pointer (some ⟨b2, 0, none⟩)), (4, .pointer (some ⟨b4, 0, none⟩)), (9, .slice (some ⟨bP, 0, none⟩) l.length capP), (12, ud3), (13, .int .i64 i)]) g.1.1 g.1.2.1 g.1.2.2.1 g.1.2.2.2.1 g.1.2.2.2.2.1 g.1.2.2.2.2.2) (fun g => (fun (X2 : RS) (vX2 : List Value) (CX2 : qM) (ds3 : List Int) (ud3 : Value) (Cd3 : qM) => Cd3 :: [(b2, .cells vX2.toArray 41 (0, 0))] :: [(b4, .cells node0V.toArray 41 (0, 0))] :: CX2 :: [(bP, .cells (l.flatMap wt ++ spP).toArray 65 (0, 0))] :: [(bA, .cells (iV bs ++ spA).toArray 3 (0, 0))] :: F) g.1.1 g.1.2.1 g.1.2.2.1 g.1.2.2.2.1 g.1.2.2.2.2.1 g.1.2.2.2.2.2) ?_ ?_
     ·
      refine Tr.block <| zA (Γ := {pΓ : (Nat) // (fun (z : Nat) => z = 0) pΓ}) (fun g => (fun (z : Nat) => [(1, .slice (some ⟨bA, 0, none⟩) bs.length capA), (2, .pointer (some ⟨b2, 0, none⟩)), (4, .pointer (some ⟨b4, 0, none⟩)), (9, .slice (some ⟨bP, 0, none⟩) l.length capP), (12, ud), (13, .int .i64 i), (14, .int .i64 (qZ X k))]) g.1) (fun g => (fun (z : Nat) => Cd :: [(b2, .cells vX.toArray 41 (0, 0))] :: [(b4, .cells node0V.toArray 41 (0, 0))] :: CX :: [(bP, .cells (l.flatMap wt ++ spP).toArray 65 (0, 0))] :: [(bA, .cells (iV bs ++ spA).toArray 3 (0, 0))] :: F) g.1) ?_ ?_
      ·
       refine yL qm (show TrS _ _ _ _ [false, false, false, false, false, false, false] _ _ _ from ?_)
       refine TrS.take 1 rfl rfl (by kernel_rfl) rfl (w6 rfl) ?_
       refine TrS.take 2 rfl rfl (by kernel_rfl) rfl (w6 rfl) ?_
       refine TrS.take 3 rfl rfl (by kernel_rfl) rfl (wU (j := i) (off := i * 2) rfl rfl rfl (by omega) (by simp)) ?_
       refine wg (i := 0) (j := 4) (by kernel_rfl) rfl ?_ ?_
       ·
        refine qQ rfl rfl rfl (w7 rfl hX.len) <| TrS.one (i := 4) (by kernel_rfl) rfl ?_
        refine qQ rfl rfl rfl (wk (j := i) zb rfl hk rfl) <| TrS.one (i := 5) (by kernel_rfl) rfl ?_
        refine qQ rfl rfl rfl (qw rfl (zM (CX) (Wk X vX CX hX k hkp))) <| TrS.take 6 rfl rfl (by kernel_rfl) rfl (wA rfl) ?_
        refine qy (by kernel_rfl) ?_
        refine qO ⟨0, ?_⟩ ?_
        · (try dsimp only); all_goals rfl
        · (try dsimp only); exact qP _
       ·
        refine qQ rfl rfl rfl (wk (j := i) zb rfl hk rfl) <| TrS.one (i := 0) (by kernel_rfl) rfl ?_
        refine qQ rfl rfl rfl (w7 rfl hX.len) <| TrS.one (i := 5) (by kernel_rfl) rfl ?_
        refine qQ rfl rfl rfl (qw rfl (zM (CX) (Wk X vX CX hX k hkp))) <| TrS.take 6 rfl rfl (by kernel_rfl) rfl (wA rfl) ?_
        refine qy (by kernel_rfl) ?_
        refine qO ⟨0, ?_⟩ ?_
        · (try dsimp only); all_goals rfl
        · (try dsimp only); exact qP _
      rintro ⟨z, hcut⟩
      replace hcut : z = 0 := hcut
      have hz := hcut
      show Tr _ _ _ ([(1, .slice (some ⟨bA, 0, none⟩) bs.length capA), (2, .pointer (some ⟨b2, 0, none⟩)), (4, .pointer (some ⟨b4, 0, none⟩)), (9, .slice (some ⟨bP, 0, none⟩) l.length capP), (12, ud), (13, .int .i64 i), (14, .int .i64 (qZ X k))]) (Cd :: [(b2, .cells vX.toArray 41 (0, 0))] :: [(b4, .cells node0V.toArray 41 (0, 0))] :: CX :: [(bP, .cells (l.flatMap wt ++ spP).toArray 65 (0, 0))] :: [(bA, .cells (iV bs ++ spA).toArray 3 (0, 0))] :: F) _ _
      refine zA (Γ := {pΓ : (List Int) × (Value) × (qM) // (fun (ds2 : List Int) (ud2 : Value) (Cd2 : qM) => SlC 3 1 ud2 ds2.length (iV ds2) Cd2 ∧ ds2 = (if qZ X k ≠ 0 then ds ++ [qZ X k] else ds) ∧ ds2.length ≤ ds.length + 1) pΓ.1 pΓ.2.1 pΓ.2.2}) (fun g => (fun (ds2 : List Int) (ud2 : Value) (Cd2 : qM) => [(1, .slice (some ⟨bA, 0, none⟩) bs.length capA), (2, .pointer (some ⟨b2, 0, none⟩)), (4, .pointer (some ⟨b4, 0, none⟩)), (9, .slice (some ⟨bP, 0, none⟩) l.length capP), (12, ud2), (13, .int .i64 i)]) g.1.1 g.1.2.1 g.1.2.2) (fun g => (fun (ds2 : List Int) (ud2 : Value) (Cd2 : qM) => Cd2 :: [(b2, .cells vX.toArray 41 (0, 0))] :: [(b4, .cells node0V.toArray 41 (0, 0))] :: CX :: [(bP, .cells (l.flatMap wt ++ spP).toArray 65 (0, 0))] :: [(bA, .cells (iV bs ++ spA).toArray 3 (0, 0))] :: F) g.1.1 g.1.2.1 g.1.2.2) ?_ ?_
      ·
       refine Tr.seq <| Tr.region <| q9 (qA rfl) <| q9 (wZ rfl rfl) <| qB <| QAt.seq <| qI rfl (fun hc14 => ?_) (fun hc14 => ?_)
       ·
        refine Tr.region <| q9 (qA rfl) <| q9 (qA rfl) <| qF (w5 rfl rfl rfl) ?_
        rintro t66 _ ⟨b66, rfl, rfl⟩
        refine qF (wP (m := 1) (sz := 1) rfl rfl hsd (wQ (ys := iV [qZ X k]) inferInstance rfl rfl) rfl Tryz.underlying39 rfl rfl (by omega)) ?_
        rintro t67 _ ⟨C', hs', rfl⟩
        refine q9 (qC rfl) <| qB <| qO ⟨(ds ++ [qZ X k], t67, C'), ?_⟩ ?_
        · (try dsimp only); exact ⟨by rw [List.length_append]; simpa [iV] using hs', by rw [if_pos hc14], by simp⟩
        · (try dsimp only); exact qP _
       ·
        refine Tr.skip <| qO ⟨(ds, ud, Cd), ?_⟩ ?_
        · (try dsimp only); exact ⟨hsd, by rw [if_neg hc14], by omega⟩
        · (try dsimp only); exact qP _
      rintro ⟨⟨ds2, ud2, Cd2⟩, hcut⟩
      replace hcut : SlC 3 1 ud2 ds2.length (iV ds2) Cd2 ∧ ds2 = (if qZ X k ≠ 0 then ds ++ [qZ X k] else ds) ∧ ds2.length ≤ ds.length + 1 := hcut
      obtain ⟨hsd2, hd2, hdl2⟩ := hcut
      show Tr _ _ _ ([(1, .slice (some ⟨bA, 0, none⟩) bs.length capA), (2, .pointer (some ⟨b2, 0, none⟩)), (4, .pointer (some ⟨b4, 0, none⟩)), (9, .slice (some ⟨bP, 0, none⟩) l.length capP), (12, ud2), (13, .int .i64 i)]) (Cd2 :: [(b2, .cells vX.toArray 41 (0, 0))] :: [(b4, .cells node0V.toArray 41 (0, 0))] :: CX :: [(bP, .cells (l.flatMap wt ++ spP).toArray 65 (0, 0))] :: [(bA, .cells (iV bs ++ spA).toArray 3 (0, 0))] :: F) _ _
      refine yL qm (show TrS _ _ _ _ [false, false, false, false, false, false, false, false, false, false, false] _ _ _ from ?_)
      refine TrS.take 1 rfl rfl (by kernel_rfl) rfl (w6 rfl) ?_
      refine TrS.take 2 rfl rfl (by kernel_rfl) rfl (w6 rfl) ?_
      refine TrS.take 3 rfl rfl (by kernel_rfl) rfl (wU (j := i) (off := i * 2) rfl rfl rfl (by omega) (by simp)) ?_
      refine TrS.take 5 rfl rfl (by kernel_rfl) rfl (w6 rfl) ?_
      refine TrS.take 6 rfl rfl (by kernel_rfl) rfl (w6 rfl) ?_
      refine TrS.take 7 rfl rfl (by kernel_rfl) rfl (wU (j := i) (off := i * 1) rfl rfl rfl (by omega) (by simp)) ?_
      refine xM (i := 0) (j := 4) (k := 8) (by kernel_rfl) rfl ?_ ?_ ?_
      ·
       refine qQ rfl rfl rfl (w7 rfl hX.len) <| wg (i := 4) (j := 8) (by kernel_rfl) rfl ?_ ?_
       ·
        refine qQ rfl rfl rfl (wk (j := i) zb rfl hk rfl) <| TrS.one (i := 8) (by kernel_rfl) rfl ?_
        refine qQ rfl rfl rfl (qG rfl (jG ha)) <| TrS.one (i := 9) (by kernel_rfl) rfl ?_
        refine qp rfl rfl rfl (qn rfl (wM (CX) (Q5 X vX CX hX k hkp a))) ?_
        rintro t77 _ ⟨lX, CX', rfl, hX', rfl⟩
        refine TrS.one (i := 10) (by kernel_rfl) rfl ?_
        refine w9 rfl rfl rfl (qW rfl rfl hX.len hX'.len hX'.one) <| qy (by kernel_rfl) ?_
        refine QAt.block <| qO ⟨(yu X k a, lX, CX', ds2, ud2, Cd2), ?_⟩ ?_
        · (try dsimp only); exact ⟨hX', hsd2, by omega, by rw [hd2]; exact hcf⟩
        · (try dsimp only); exact qP _
       ·
        refine qQ rfl rfl rfl (qG rfl (jG ha)) <| TrS.one (i := 4) (by kernel_rfl) rfl ?_
        refine qQ rfl rfl rfl (wk (j := i) zb rfl hk rfl) <| TrS.one (i := 9) (by kernel_rfl) rfl ?_
        refine qp rfl rfl rfl (qn rfl (wM (CX) (Q5 X vX CX hX k hkp a))) ?_
        rintro t77 _ ⟨lX, CX', rfl, hX', rfl⟩
        refine TrS.one (i := 10) (by kernel_rfl) rfl ?_
        refine w9 rfl rfl rfl (qW rfl rfl hX.len hX'.len hX'.one) <| qy (by kernel_rfl) ?_
        refine QAt.block <| qO ⟨(yu X k a, lX, CX', ds2, ud2, Cd2), ?_⟩ ?_
        · (try dsimp only); exact ⟨hX', hsd2, by omega, by rw [hd2]; exact hcf⟩
        · (try dsimp only); exact qP _
      ·
       refine qQ rfl rfl rfl (wk (j := i) zb rfl hk rfl) <| wg (i := 0) (j := 8) (by kernel_rfl) rfl ?_ ?_
       ·
        refine qQ rfl rfl rfl (w7 rfl hX.len) <| TrS.one (i := 8) (by kernel_rfl) rfl ?_
        refine qQ rfl rfl rfl (qG rfl (jG ha)) <| TrS.one (i := 9) (by kernel_rfl) rfl ?_
        refine qp rfl rfl rfl (qn rfl (wM (CX) (Q5 X vX CX hX k hkp a))) ?_
        rintro t77 _ ⟨lX, CX', rfl, hX', rfl⟩
        refine TrS.one (i := 10) (by kernel_rfl) rfl ?_
        refine w9 rfl rfl rfl (qW rfl rfl hX.len hX'.len hX'.one) <| qy (by kernel_rfl) ?_
        refine QAt.block <| qO ⟨(yu X k a, lX, CX', ds2, ud2, Cd2), ?_⟩ ?_
        · (try dsimp only); exact ⟨hX', hsd2, by omega, by rw [hd2]; exact hcf⟩
        · (try dsimp only); exact qP _
       ·
        refine qQ rfl rfl rfl (qG rfl (jG ha)) <| TrS.one (i := 0) (by kernel_rfl) rfl ?_
        refine qQ rfl rfl rfl (w7 rfl hX.len) <| TrS.one (i := 9) (by kernel_rfl) rfl ?_
        refine qp rfl rfl rfl (qn rfl (wM (CX) (Q5 X vX CX hX k hkp a))) ?_
        rintro t77 _ ⟨lX, CX', rfl, hX', rfl⟩
        refine TrS.one (i := 10) (by kernel_rfl) rfl ?_
        refine w9 rfl rfl rfl (qW rfl rfl hX.len hX'.len hX'.one) <| qy (by kernel_rfl) ?_
        refine QAt.block <| qO ⟨(yu X k a, lX, CX', ds2, ud2, Cd2), ?_⟩ ?_
        · (try dsimp only); exact ⟨hX', hsd2, by omega, by rw [hd2]; exact hcf⟩
        · (try dsimp only); exact qP _
      ·
       refine qQ rfl rfl rfl (qG rfl (jG ha)) <| wg (i := 0) (j := 4) (by kernel_rfl) rfl ?_ ?_
       ·
        refine qQ rfl rfl rfl (w7 rfl hX.len) <| TrS.one (i := 4) (by kernel_rfl) rfl ?_
        refine qQ rfl rfl rfl (wk (j := i) zb rfl hk rfl) <| TrS.one (i := 9) (by kernel_rfl) rfl ?_
        refine qp rfl rfl rfl (qn rfl (wM (CX) (Q5 X vX CX hX k hkp a))) ?_
        rintro t77 _ ⟨lX, CX', rfl, hX', rfl⟩
        refine TrS.one (i := 10) (by kernel_rfl) rfl ?_
        refine w9 rfl rfl rfl (qW rfl rfl hX.len hX'.len hX'.one) <| qy (by kernel_rfl) ?_
        refine QAt.block <| qO ⟨(yu X k a, lX, CX', ds2, ud2, Cd2), ?_⟩ ?_
        · (try dsimp only); exact ⟨hX', hsd2, by omega, by rw [hd2]; exact hcf⟩
        · (try dsimp only); exact qP _
       ·
        refine qQ rfl rfl rfl (wk (j := i) zb rfl hk rfl) <| TrS.one (i := 0) (by kernel_rfl) rfl ?_
        refine qQ rfl rfl rfl (w7 rfl hX.len) <| TrS.one (i := 9) (by kernel_rfl) rfl ?_
        refine qp rfl rfl rfl (qn rfl (wM (CX) (Q5 X vX CX hX k hkp a))) ?_
        rintro t77 _ ⟨lX, CX', rfl, hX', rfl⟩
        refine TrS.one (i := 10) (by kernel_rfl) rfl ?_
        refine w9 rfl rfl rfl (qW rfl rfl hX.len hX'.len hX'.one) <| qy (by kernel_rfl) ?_
        refine QAt.block <| qO ⟨(yu X k a, lX, CX', ds2, ud2, Cd2), ?_⟩ ?_
        · (try dsimp only); exact ⟨hX', hsd2, by omega, by rw [hd2]; exact hcf⟩
        · (try dsimp only); exact qP _
     rintro ⟨⟨X2, vX2, CX2, ds3, ud3, Cd3⟩, hcut⟩
     replace hcut : RefC0 ba bl X2 vX2 CX2 ∧ SlC 3 1 ud3 ds3.length (iV ds3) Cd3 ∧ ds3.length ≤ 800001 + i ∧ ws (l.drop (i + 1)) (bs.drop (i + 1)) (X2, ds3) = ws l bs (W, W.gone) := hcut
     obtain ⟨hX2, hsd3, hdl3, hcf3⟩ := hcut
     show Tr _ _ _ ([(1, .slice (some ⟨bA, 0, none⟩) bs.length capA), (2, .pointer (some ⟨b2, 0, none⟩)), (4, .pointer (some ⟨b4, 0, none⟩)), (9, .slice (some ⟨bP, 0, none⟩) l.length capP), (12, ud3), (13, .int .i64 i)]) (Cd3 :: [(b2, .cells vX2.toArray 41 (0, 0))] :: [(b4, .cells node0V.toArray 41 (0, 0))] :: CX2 :: [(bP, .cells (l.flatMap wt ++ spP).toArray 65 (0, 0))] :: [(bA, .cells (iV bs ++ spA).toArray 3 (0, 0))] :: F) _ _
     refine Tr.region <| q9 (qA rfl) <| q9 (qj rfl rfl (by omega)) <| q9 (qC rfl) <| qB <| qh ⟨(i + 1, X2, vX2, CX2, ds3, ud3, Cd3), ?_⟩ ?_ ?_
     · (try dsimp only); exact ⟨by omega, hX2, hsd3, by omega, hcf3⟩
     · (try dsimp only); omega
     · (try dsimp only); exact qP _
    ·
     refine Tr.exit <| qX <| qY <| qS <| QAt.seq <| Tr.seq ?_
     rw [List.drop_of_length_le (by omega), kx] at hcf
     obtain rfl : X = m := by rw [← hm]; unfold yQ; rw [hl, ← hcf]
     have hdd : x6 W bs = ds := by unfold x6; rw [hl, ← hcf]
     refine Tr.region <| q9 (qC rfl) <| qB <| QAt.seq <| Tr.seq <| Tr.seq <| Tr.region <| q9 (qC rfl) <| qB <| QAt.seq <| Tr.block <| wB (Γ := {pΓ : (Nat) × (Value) × (qM) // (fun (j : Nat) (us : Value) (Cs : qM) => j ≤ l.length ∧ SlC 54 128 us j ((l.take j).flatMap (fun k => wW (wd X k))) Cs) pΓ.1 pΓ.2.1 pΓ.2.2}) (fun g => (fun (j : Nat) (us : Value) (Cs : qM) => [(2, .pointer (some ⟨b2, 0, none⟩)), (4, .pointer (some ⟨b4, 0, none⟩)), (9, t19), (12, ud), (15, us), (16, .int .i64 j)]) g.1.1 g.1.2.1 g.1.2.2) (fun g => (fun (j : Nat) (us : Value) (Cs : qM) => Cs :: Cd :: [(b2, .cells vX.toArray 41 (0, 0))] :: [(b4, .cells node0V.toArray 41 (0, 0))] :: CX :: Cp :: Cb :: F) g.1.1 g.1.2.1 g.1.2.2) (fun g => (fun (j : Nat) (us : Value) (Cs : qM) => l.length - j) g.1.1 g.1.2.1 g.1.2.2) ⟨(0, .slice none 0 0, []), by dsimp only; exact ⟨by omega, zu _ _⟩⟩ (qP _) ?_
     rintro ⟨⟨j, us, Cs⟩, hloop⟩
     replace hloop : j ≤ l.length ∧ SlC 54 128 us j ((l.take j).flatMap (fun k => wW (wd X k))) Cs := hloop
     obtain ⟨hj, hss⟩ := hloop
     show Tr _ _ _ ([(2, .pointer (some ⟨b2, 0, none⟩)), (4, .pointer (some ⟨b4, 0, none⟩)), (9, t19), (12, ud), (15, us), (16, .int .i64 j)]) (Cs :: Cd :: [(b2, .cells vX.toArray 41 (0, 0))] :: [(b4, .cells node0V.toArray 41 (0, 0))] :: CX :: Cp :: Cb :: F) _ _
     refine Tr.seq <| Tr.seq <| Tr.region <| q9 (qA rfl) <| q9 (qA rfl) <| q9 (qg (by rw [hvp]; rfl)) ?_
     refine q9 (qv rfl rfl) <| qB <| QAt.seq <| qI rfl (fun hc19 => ?_) (fun hc19 => ?_)
     ·
      obtain ⟨k, hk⟩ : ∃ k, l[j]? = some k := ⟨_, List.getElem?_eq_getElem (by omega)⟩
      have hkp := hlp k (List.mem_of_getElem? hk)
      rcases hsp with ⟨-, h0', -⟩ | ⟨bP, capP, spP, rfl, hcsP, rfl, hcapP, hncP⟩
      · omega
      refine Tr.skip <| QAt.seq <| zA (Γ := {pΓ : (Value) × (qM) // (fun (us2 : Value) (Cs2 : qM) => SlC 54 128 us2 (j + 1) ((l.take (j + 1)).flatMap (fun k => wW (wd X k))) Cs2) pΓ.1 pΓ.2}) (fun g => (fun (us2 : Value) (Cs2 : qM) => [(2, .pointer (some ⟨b2, 0, none⟩)), (4, .pointer (some ⟨b4, 0, none⟩)), (9, .slice (some ⟨bP, 0, none⟩) l.length capP), (12, ud), (15, us2), (16, .int .i64 j)]) g.1.1 g.1.2) (fun g => (fun (us2 : Value) (Cs2 : qM) => Cs2 :: Cd :: [(b2, .cells vX.toArray 41 (0, 0))] :: [(b4, .cells node0V.toArray 41 (0, 0))] :: CX :: [(bP, .cells (l.flatMap wt ++ spP).toArray 65 (0, 0))] :: Cb :: F) g.1.1 g.1.2) ?_ ?_
      ·
       refine Tr.block <| yL qm (show TrS _ _ _ _ [false, false, false, false, false, false, false, false, false, false] _ _ _ from ?_)
       refine TrS.take 0 rfl rfl (by kernel_rfl) rfl (w6 rfl) ?_
       refine TrS.take 2 rfl rfl (by kernel_rfl) rfl (w6 rfl) ?_
       refine TrS.take 3 rfl rfl (by kernel_rfl) rfl (w6 rfl) ?_
       refine TrS.take 4 rfl rfl (by kernel_rfl) rfl (wU (j := j) (off := j * 2) rfl rfl rfl (by omega) (by simp)) ?_
       refine wg (i := 1) (j := 5) (by kernel_rfl) rfl ?_ ?_
       ·
        refine qQ rfl rfl rfl (w7 rfl hX.len) <| TrS.one (i := 5) (by kernel_rfl) rfl ?_
        refine qQ rfl rfl rfl (wk (j := j) zb rfl hk rfl) <| TrS.one (i := 6) (by kernel_rfl) rfl ?_
        refine qQ rfl rfl rfl (qw rfl (zM (CX) (Yf X vX CX hX hok k hkp))) <| TrS.one (i := 7) (by kernel_rfl) rfl ?_
        refine qp rfl rfl rfl (w5 rfl rfl rfl) ?_
        rintro t91 _ ⟨b91, rfl, rfl⟩
        refine TrS.one (i := 8) (by kernel_rfl) rfl ?_
        refine qp rfl rfl rfl (wP (m := 1) (sz := 128) rfl rfl hss (wQ (ys := wW (wd X k)) inferInstance (by simp [xR]) (by simp)) (wS _) Tryz.underlying105 rfl (by simp [Value.cells]) (by omega)) ?_
        rintro t92 _ ⟨C', hs', rfl⟩
        refine TrS.take 9 rfl rfl (by kernel_rfl) rfl (wA rfl) ?_
        refine qy (by kernel_rfl) ?_
        refine QAt.block <| qO ⟨(_, C'), ?_⟩ ?_
        · (try dsimp only); rw [List.take_add_one, hk, List.flatMap_append]; simpa using hs'
        · (try dsimp only); exact qP _
       ·
        refine qQ rfl rfl rfl (wk (j := j) zb rfl hk rfl) <| TrS.one (i := 1) (by kernel_rfl) rfl ?_
        refine qQ rfl rfl rfl (w7 rfl hX.len) <| TrS.one (i := 6) (by kernel_rfl) rfl ?_
        refine qQ rfl rfl rfl (qw rfl (zM (CX) (Yf X vX CX hX hok k hkp))) <| TrS.one (i := 7) (by kernel_rfl) rfl ?_
        refine qp rfl rfl rfl (w5 rfl rfl rfl) ?_
        rintro t91 _ ⟨b91, rfl, rfl⟩
        refine TrS.one (i := 8) (by kernel_rfl) rfl ?_
        refine qp rfl rfl rfl (wP (m := 1) (sz := 128) rfl rfl hss (wQ (ys := wW (wd X k)) inferInstance (by simp [xR]) (by simp)) (wS _) Tryz.underlying105 rfl (by simp [Value.cells]) (by omega)) ?_
        rintro t92 _ ⟨C', hs', rfl⟩
        refine TrS.take 9 rfl rfl (by kernel_rfl) rfl (wA rfl) ?_
        refine qy (by kernel_rfl) ?_
        refine QAt.block <| qO ⟨(_, C'), ?_⟩ ?_
        · (try dsimp only); rw [List.take_add_one, hk, List.flatMap_append]; simpa using hs'
        · (try dsimp only); exact qP _
      rintro ⟨⟨us2, Cs2⟩, hcut⟩
      replace hcut : SlC 54 128 us2 (j + 1) ((l.take (j + 1)).flatMap (fun k => wW (wd X k))) Cs2 := hcut
      have hss2 := hcut
      show Tr _ _ _ ([(2, .pointer (some ⟨b2, 0, none⟩)), (4, .pointer (some ⟨b4, 0, none⟩)), (9, .slice (some ⟨bP, 0, none⟩) l.length capP), (12, ud), (15, us2), (16, .int .i64 j)]) (Cs2 :: Cd :: [(b2, .cells vX.toArray 41 (0, 0))] :: [(b4, .cells node0V.toArray 41 (0, 0))] :: CX :: [(bP, .cells (l.flatMap wt ++ spP).toArray 65 (0, 0))] :: Cb :: F) _ _
      refine Tr.region <| q9 (qA rfl) <| q9 (qj rfl rfl (by omega)) <| q9 (qC rfl) <| qB <| qh ⟨(j + 1, us2, Cs2), ?_⟩ ?_ ?_
      · (try dsimp only); exact ⟨by omega, hss2⟩
      · (try dsimp only); omega
      · (try dsimp only); exact qP _
     ·
      refine Tr.exit <| qX <| qY <| qS <| QAt.seq <| Tr.seq ?_
      obtain rfl : j = l.length := by omega
      rw [List.take_length] at hss
      obtain ⟨pX, gX, cX, rfl, rfl⟩ := hX
      unfold k6
      refine yW (L' := Cs :: Cd :: [(b2, .cells [.int .u32 X.num, .int .u32 X.ver, .int .i64 X.kind, .int .i64 X.size, .int .u32 X.time, .slice (some ⟨ba, 0, none⟩) 1064 1064, .slice (some ⟨bl, 0, none⟩) 32 32, .int .i64 X.sg.at_, .bool X.sg.stale, .int .i64 X.db.at_, .bool X.db.stale, .int .i64 X.self.at_, .bool X.self.stale, .slice pX gX cX].toArray 41 (0, 0))] :: [(b4, .cells node0V.toArray 41 (0, 0))] :: [(ba, .cells ((we X.all).flatMap wc ++ []).toArray 125 (0, 0))] :: [(bl, .cells ((qx X.leaves).flatMap wb ++ []).toArray 38 (0, 0))] :: Cp :: Cb :: F) (wH (by simp)) ?_
      refine Tr.region <| q9 (qD rfl) <| qK (wX rfl rfl rfl) <| qB <| QAt.seq <| Tr.seq <| Tr.region <| q9 (qD rfl) <| q9 (qk rfl) <| qK (wX rfl rfl rfl) <| qB <| QAt.seq <| Tr.seq <| Tr.region <| q9 (qD rfl) <| q9 (qk rfl) <| qK (wX rfl rfl rfl) <| qB <| QAt.seq <| Tr.seq <| Tr.region <| q9 (qD rfl) <| q9 (qk rfl) <| qK (wX rfl rfl rfl) <| qB <| QAt.seq <| Tr.seq <| Tr.seq <| Tr.region <| q9 (qC rfl) <| qB <| QAt.seq <| Tr.block <| wB (Γ := {pΓ : (Nat) // (fun (k : Nat) => k ≤ 32) pΓ}) (fun g => (fun (k : Nat) => [(2, .pointer (some ⟨b2, 0, none⟩)), (4, .pointer (some ⟨b4, 0, none⟩)), (9, t19), (12, ud), (15, us), (17, .int .i64 k)]) g.1) (fun g => (fun (k : Nat) => Cs :: Cd :: [(b2, .cells [.int .u32 X.num, .int .u32 X.ver, .int .i64 X.kind, .int .i64 X.size, .int .u32 X.time, .slice (some ⟨ba, 0, none⟩) 1064 1064, .slice (some ⟨bl, 0, none⟩) 32 32, .int .i64 X.sg.at_, .bool false, .int .i64 X.db.at_, .bool false, .int .i64 X.self.at_, .bool false, .slice none 0 0].toArray 41 (0, 0))] :: [(b4, .cells node0V.toArray 41 (0, 0))] :: [(ba, .cells ((we X.all).flatMap wc ++ []).toArray 125 (0, 0))] :: [(bl, .cells ((qx (lvT X k)).flatMap wb ++ []).toArray 38 (0, 0))] :: Cp :: Cb :: F) g.1) (fun g => (fun (k : Nat) => 32 - k) g.1) ⟨0, by dsimp only; exact (by omega)⟩ ((by dsimp only; rw [show lvT X (0 : Nat) = X.leaves from by funext j; unfold lvT; rw [if_neg (by omega)]]; exact qP _)) ?_
      rintro ⟨k, hloop⟩
      replace hloop : k ≤ 32 := hloop
      obtain hk := hloop
      show Tr _ _ _ ([(2, .pointer (some ⟨b2, 0, none⟩)), (4, .pointer (some ⟨b4, 0, none⟩)), (9, t19), (12, ud), (15, us), (17, .int .i64 k)]) (Cs :: Cd :: [(b2, .cells [.int .u32 X.num, .int .u32 X.ver, .int .i64 X.kind, .int .i64 X.size, .int .u32 X.time, .slice (some ⟨ba, 0, none⟩) 1064 1064, .slice (some ⟨bl, 0, none⟩) 32 32, .int .i64 X.sg.at_, .bool false, .int .i64 X.db.at_, .bool false, .int .i64 X.self.at_, .bool false, .slice none 0 0].toArray 41 (0, 0))] :: [(b4, .cells node0V.toArray 41 (0, 0))] :: [(ba, .cells ((we X.all).flatMap wc ++ []).toArray 125 (0, 0))] :: [(bl, .cells ((qx (lvT X k)).flatMap wb ++ []).toArray 38 (0, 0))] :: Cp :: Cb :: F) _ _
      refine Tr.seq <| Tr.seq <| Tr.region <| q9 (qA rfl) <| q9 (qv rfl rfl) <| qB <| QAt.seq <| qI rfl (fun hc27 => ?_) (fun hc27 => ?_)
      ·
       refine Tr.skip <| QAt.seq <| Tr.seq <| Tr.block <| Tr.region <| q9 (qD rfl) <| q9 (qG rfl rfl) <| q9 (qA rfl) <| q9 (qf (j := k) (off := k * 2) rfl rfl rfl (by omega) (by simp)) ?_
       refine q9 (qk rfl) <| qK (y6 (j := k) (k := 1) (p := X.leaves k) (p' := ⟨(X.leaves k).at_, false⟩) zC rfl rfl (by rw [wn (by omega), lvT_at]) (by omega) rfl rfl) ?_
       refine qB <| QAt.block <| QAt.seq <| Tr.region <| q9 (qA rfl) <| q9 (qj rfl rfl (by omega)) <| q9 (qC rfl) <| qB <| qh ⟨k + 1, ?_⟩ ?_ ?_
       · (try dsimp only); omega
       · (try dsimp only); omega
       · (try dsimp only); exact y7 (by rw [show (qx (lvT X k)).set k ⟨(X.leaves k).at_, false⟩ = qx (upd (lvT X k) (k : Int) ⟨(X.leaves k).at_, false⟩) from zP, lvT_step])
      ·
       refine Tr.exit <| qX <| qY <| qS <| QAt.seq <| Tr.seq ?_
       obtain rfl : k = 32 := by omega
       refine yL qm (show TrS _ _ _ _ [false, false, false, false, false, false, false, false, false, false] _ _ _ from ?_)
       refine TrS.take 1 rfl rfl (by kernel_rfl) rfl (w6 rfl) ?_
       refine TrS.take 2 rfl rfl (by kernel_rfl) rfl (w6 rfl) ?_
       refine TrS.take 3 rfl rfl (by kernel_rfl) rfl (w6 rfl) ?_
       refine wg (i := 0) (j := 4) (by kernel_rfl) rfl ?_ ?_
       ·
        refine qQ rfl rfl rfl (wE rfl) <| TrS.one (i := 4) (by kernel_rfl) rfl ?_
        refine qp rfl rfl rfl (qn rfl (wM (Cd) (Ye ud Cd ds hsd (by omega)))) ?_
        rintro t113 _ ⟨Cd', hsd', rfl⟩
        refine TrS.one (i := 5) (by kernel_rfl) rfl ?_
        refine w9 rfl rfl rfl (qW (l := node0V) rfl rfl rfl rfl rfl) <| TrS.take 6 rfl rfl (by kernel_rfl) rfl (wA rfl) ?_
        refine TrS.take 7 rfl rfl (by kernel_rfl) rfl (wA rfl) ?_
        refine TrS.take 8 rfl rfl (by kernel_rfl) rfl (wA rfl) ?_
        refine TrS.take 9 rfl rfl (by kernel_rfl) rfl (wA rfl) ?_
        refine qy (by kernel_rfl) ?_
        refine z8 (qP ([(b4, .cells [.int .u32 X.num, .int .u32 X.ver, .int .i64 X.kind, .int .i64 X.size, .int .u32 X.time, .slice (some ⟨ba, 0, none⟩) 1064 1064, .slice (some ⟨bl, 0, none⟩) 32 32, .int .i64 X.sg.at_, .bool false, .int .i64 X.db.at_, .bool false, .int .i64 X.self.at_, .bool false, .slice none 0 0].toArray 41 (0, 0))] :: [(ba, .cells ((we X.all).flatMap wc ++ []).toArray 125 (0, 0))] :: [(bl, .cells ((qx (lvT X 32)).flatMap wb ++ []).toArray 38 (0, 0))] :: Cp :: Cs :: Cd' :: Cb :: F)) <| z8 (wH (L' := [(b4, .cells [.int .u32 X.num, .int .u32 X.ver, .int .i64 X.kind, .int .i64 X.size, .int .u32 X.time, .slice (some ⟨ba, 0, none⟩) 1064 1064, .slice (some ⟨bl, 0, none⟩) 32 32, .int .i64 X.sg.at_, .bool false, .int .i64 X.db.at_, .bool false, .int .i64 X.self.at_, .bool false, .slice none 0 0].toArray 41 (0, 0))] :: ((ba, .cells ((we X.all).flatMap wc ++ []).toArray 125 (0, 0)) :: (bl, .cells ((qx (lvT X 32)).flatMap wb ++ []).toArray 38 (0, 0)) :: []) :: Cp :: Cs :: Cd' :: Cb :: F) (by simp)) ?_
        refine QAt.seq <| Tr.ret <| Ky (((ba, .cells ((we X.all).flatMap wc ++ []).toArray 125 (0, 0)) :: (bl, .cells ((qx (lvT X 32)).flatMap wb ++ []).toArray 38 (0, 0)) :: []) :: Cp :: Cs :: Cd' :: Cb :: F) (.inl rfl) rfl (zB rfl) (qd rfl) (qd rfl) (qd rfl) (qd rfl) <| ⟨_, _, _, _, _, _, _, _, rfl, ?_, hsp, hss, by rw [hdd]; exact hsd', rfl⟩
        rw [show wm W bs = Wv X from by unfold wm; rw [hm]]
        exact ⟨_, _, rfl, zu _ _, rfl⟩
       ·
        refine qp rfl rfl rfl (qn rfl (wM (Cd) (Ye ud Cd ds hsd (by omega)))) ?_
        rintro t113 _ ⟨Cd', hsd', rfl⟩
        refine TrS.one (i := 0) (by kernel_rfl) rfl ?_
        refine qQ rfl rfl rfl (wE rfl) <| TrS.one (i := 5) (by kernel_rfl) rfl ?_
        refine w9 rfl rfl rfl (qW (l := node0V) rfl rfl rfl rfl rfl) <| TrS.take 6 rfl rfl (by kernel_rfl) rfl (wA rfl) ?_
        refine TrS.take 7 rfl rfl (by kernel_rfl) rfl (wA rfl) ?_
        refine TrS.take 8 rfl rfl (by kernel_rfl) rfl (wA rfl) ?_
        refine TrS.take 9 rfl rfl (by kernel_rfl) rfl (wA rfl) ?_
        refine qy (by kernel_rfl) ?_
        refine z8 (qP ([(b4, .cells [.int .u32 X.num, .int .u32 X.ver, .int .i64 X.kind, .int .i64 X.size, .int .u32 X.time, .slice (some ⟨ba, 0, none⟩) 1064 1064, .slice (some ⟨bl, 0, none⟩) 32 32, .int .i64 X.sg.at_, .bool false, .int .i64 X.db.at_, .bool false, .int .i64 X.self.at_, .bool false, .slice none 0 0].toArray 41 (0, 0))] :: [(ba, .cells ((we X.all).flatMap wc ++ []).toArray 125 (0, 0))] :: [(bl, .cells ((qx (lvT X 32)).flatMap wb ++ []).toArray 38 (0, 0))] :: Cp :: Cs :: Cd' :: Cb :: F)) <| z8 (wH (L' := [(b4, .cells [.int .u32 X.num, .int .u32 X.ver, .int .i64 X.kind, .int .i64 X.size, .int .u32 X.time, .slice (some ⟨ba, 0, none⟩) 1064 1064, .slice (some ⟨bl, 0, none⟩) 32 32, .int .i64 X.sg.at_, .bool false, .int .i64 X.db.at_, .bool false, .int .i64 X.self.at_, .bool false, .slice none 0 0].toArray 41 (0, 0))] :: ((ba, .cells ((we X.all).flatMap wc ++ []).toArray 125 (0, 0)) :: (bl, .cells ((qx (lvT X 32)).flatMap wb ++ []).toArray 38 (0, 0)) :: []) :: Cp :: Cs :: Cd' :: Cb :: F) (by simp)) ?_
        refine QAt.seq <| Tr.ret <| Ky (((ba, .cells ((we X.all).flatMap wc ++ []).toArray 125 (0, 0)) :: (bl, .cells ((qx (lvT X 32)).flatMap wb ++ []).toArray 38 (0, 0)) :: []) :: Cp :: Cs :: Cd' :: Cb :: F) (.inl rfl) rfl (zB rfl) (qd rfl) (qd rfl) (qd rfl) (qd rfl) <| ⟨_, _, _, _, _, _, _, _, rfl, ?_, hsp, hss, by rw [hdd]; exact hsd', rfl⟩
        rw [show wm W bs = Wv X from by unfold wm; rw [hm]]
        exact ⟨_, _, rfl, zu _ _, rfl⟩
end Go.Proofs.YtjikpomndbkfgaaGreatDoor
namespace Go.Sx
open Go
instance At.fst2 (a b : Nat) (oa ob : Obj) (L : Res) : At ([(a, oa), (b, ob)] :: L) a oa (fun o' => [(a, o'), (b, ob)] :: L) := ⟨[], (b, ob) :: L.flatten, by simp, fun _ => by simp⟩
instance At.snd2 (a b : Nat) (oa ob : Obj) (L : Res) : At ([(a, oa), (b, ob)] :: L) b ob (fun o' => [(a, oa), (b, o')] :: L) := ⟨[(a, oa)], L.flatten, by simp, fun _ => by simp⟩
end Go.Sx
namespace Go.Proofs.YtjikpomndbkfgaaGreatDoor
open Go Go.Sx Go.Nd
variable {w0 : World} {L F : Res} {ba bl : Nat}
set_option maxRecDepth 10000
def stV (p : Nat) (v : List Value) (md : Nat) (nx : Int) (dn : Bool) : List Value := .pointer (some ⟨p, 0, none⟩) :: (v ++ [.map (some md), .int .i64 nx, .bool dn])
section
variable {p md : Nat} {v : List Value} {nx : Int} {dn : Bool}
theorem jS (h : v.length = 14) : (stV p v md nx dn).length = 18 := by simp [stV, h]
theorem j4 : wG (stV p v md nx dn) 0 = some (.pointer (some ⟨p, 0, none⟩)) := rfl
theorem ky (h : v.length = 14) : ((stV p v md nx dn).drop 1).take 14 = v := by simp [stV, ← h]
theorem YZ (h : v.length = 14) {i : Nat} (hi : i < 14) : wG (stV p v md nx dn) (1 + i) = wG v i := by
  rw [wi, wi, Nat.add_comm]; unfold stV; rw [List.getElem?_cons_succ, List.getElem?_append_left (by omega)]
theorem XS (h : v.length = 14) : wG (stV p v md nx dn) 15 = some (.map (some md)) := by
  rw [wi]; unfold stV; rw [List.getElem?_cons_succ, List.getElem?_append_right (by omega), h]; rfl
theorem VD (h : v.length = 14) : wG (stV p v md nx dn) 16 = some (.int .i64 nx) := by
  rw [wi]; unfold stV; rw [List.getElem?_cons_succ, List.getElem?_append_right (by omega), h]; rfl
theorem VE (h : v.length = 14) : wG (stV p v md nx dn) 17 = some (.bool dn) := by
  rw [wi]; unfold stV; rw [List.getElem?_cons_succ, List.getElem?_append_right (by omega), h]; rfl
theorem stV_sp (q : Nat) : (stV p v md nx dn).set 0 (.pointer (some ⟨q, 0, none⟩)) = stV q v md nx dn := rfl
theorem stV_sn (h : v.length = 14) (n' : Int) : (stV p v md nx dn).set 16 (.int .i64 n') = stV p v md n' dn := by
  unfold stV; rw [List.set_cons_succ, List.set_append_right _ _ (by omega), h]; rfl
theorem QR {v' : List Value} (h : v.length = 14) (h' : v'.length = 14) : (stV p v md nx dn).take 1 ++ v' ++ (stV p v md nx dn).drop (1 + v'.length) = stV p v' md nx dn := by
  rw [h']; unfold stV
  rw [show 1 + 14 = 14 + 1 from rfl, List.drop_succ_cons, List.drop_append_of_le_length (by omega), List.drop_of_length_le (by omega)]
  rfl
end
abbrev StD (x p : Nat) (v : List Value) (md : Nat) (nx : Int) (dn : Bool) (od : Obj) : qM := [(x, .cells (stV p v md nx dn).toArray 44 (0, 0)), (md, od)]
def gS (dn : Bool) (D : Int → Option Sec) (a : Int) : Option Sec := if dn then none else D a
theorem xv (x p md : Nat) (v : List Value) (nx : Int) (dn : Bool) (od : Obj) (D : Int → Option Sec) (hv : v.length = 14) (hD : MapF (Value.int .i64) kf D od) :
    YJ (.func (.func 11) #[.pointer (some ⟨x, 0, none⟩)] #[]) (StD x p v md nx dn od) (gS dn D) := by
  intro w0 F a
  refine FnV.of (first := [.pointer (some ⟨x, 0, none⟩)]) (captured := []) (vs := [.int .i64 a]) ?_
  refine FnT.enter (E0 := [(0, _), (1, _)]) (N := 27) Tryz.func11 rfl rfl rfl rfl ?_
  refine Tr.seq <| Tr.region <| qF (qV) ?_
  rintro t4 _ ⟨b4, rfl, rfl⟩
  refine q9 (qC rfl) <| qB <| QAt.seq <| Tr.seq <| Tr.region <| q9 (qA rfl) <| q9 (qJ rfl) <| q9 (qD rfl) <| q9 (qG rfl (XS hv)) <| q9 (qA rfl) <| q9 (yO (z := Sec.zero) (q := a) rfl rfl hD) <| q9 (qA rfl) <| q9 (qR rfl rfl) <| q9 (qR rfl rfl) <| qF (qV) ?_
  rintro t6 _ ⟨b6, rfl, rfl⟩
  refine qK (qW rfl rfl (by simp) (by simp) (wS _)) ?_
  refine q9 (qC rfl) <| qB <| QAt.seq <| Tr.seq <| Tr.seq <| Tr.region <| q9 (qA rfl) <| q9 (qJ rfl) <| q9 (qD rfl) <| q9 (qG rfl (VE hv)) <| q9 (qA rfl) <| TrOs.split (s := 21) rfl (fun hg2_4 => ?_) (fun hg2_4 => ?_)
  ·
   refine qH rfl rfl rfl <| qH rfl rfl rfl <| q9 (qT rfl rfl) <| qB <| QAt.seq <| ww rfl <| Tr.seq <| Tr.region <| q9 (yn (z := kf Sec.zero) rfl Tryz.underlying55 rfl (fun _ h => by cases h) (fun _ _ h => by cases h; exact ⟨_, inferInstance⟩)) ?_
   refine qK (qW rfl rfl (by simp) (by simp) (wS _)) ?_
   refine q9 (qC rfl) <| qB <| QAt.seq <| Tr.ret <| qe <| wC (StD x p v md nx dn od :: F) (.inl rfl) rfl (z7 rfl (by first | exact zD _ | simp)) (qd rfl) ?_
   have hg : gS dn D a = none := by
     unfold gS
     first
     | (rw [if_pos hg2_4]; done)
     | (rw [if_neg (by rw [hg2_4]; simp)]; simpa using hc2)
   exact ⟨by rw [hg]; rfl, rfl⟩
  ·
   refine qE rfl rfl (qA rfl) <| qE rfl rfl (kM rfl) <| q9 (qL rfl rfl) <| qB <| QAt.seq <| Tr.cond rfl (fun hc2 => ?_) (fun hc2 => ?_)
   ·
    refine Tr.seq <| Tr.region <| q9 (yn (z := kf Sec.zero) rfl Tryz.underlying55 rfl (fun _ h => by cases h) (fun _ _ h => by cases h; exact ⟨_, inferInstance⟩)) ?_
    refine qK (qW rfl rfl (by simp) (by simp) (wS _)) ?_
    refine q9 (qC rfl) <| qB <| QAt.seq <| Tr.ret <| qe <| wC (StD x p v md nx dn od :: F) (.inl rfl) rfl (z7 rfl (by first | exact zD _ | simp)) (qd rfl) ?_
    have hg : gS dn D a = none := by
      unfold gS
      first
      | (rw [if_pos hg2_4]; done)
      | (rw [if_neg (by rw [hg2_4]; simp)]; simpa using hc2)
    exact ⟨by rw [hg]; rfl, rfl⟩
   ·
    refine Tr.skip <| QAt.seq <| Tr.seq <| Tr.region <| q9 (w7 rfl (by simp)) ?_
    refine qK (qW rfl rfl (by simp) (by simp) (wS _)) ?_
    refine q9 (qC rfl) <| qB <| QAt.seq <| Tr.ret <| wC (StD x p v md nx dn od :: F) (.inl rfl) rfl (z7 rfl (by first | exact zD _ | simp)) (qd rfl) ?_
    have hg : gS dn D a = D a := by unfold gS; rw [if_neg (by rw [hg2_4]; simp)]
    have hs : (D a).isSome = true := by simpa using hc2
    exact ⟨by rw [hg, if_pos hs]; rfl, rfl⟩
theorem read_bad_ok (p : Nat) (a m : Int) (rv : Value) (h : a < 0 ∨ m < 0) :
    FnT Tryz.prog w0 9 #[.pointer (some ⟨p, 0, none⟩), .int .i64 a, .int .i64 m, rv] F (fun v L' => v = .tuple #[.slice none 0 0, .int .i64 1] ∧ L' = F) := by
  refine FnT.enter (E0 := [(0, _), (1, _), (2, _), (3, _)]) (N := 72) Tryz.func9 rfl rfl rfl rfl ?_
  refine Tr.seq <| Tr.region <| q9 (qC rfl) <| q9 (qC rfl) <| qB <| QAt.seq <| Tr.seq <| Tr.seq <| Tr.region <| q9 (qA rfl) <| q9 (qv rfl rfl) <| q9 (qA rfl) <| qN (s := 19) rfl (fun hg1_2 => ?_) (fun hg1_2 => ?_)
  ·
   refine qH rfl rfl rfl <| qH rfl rfl rfl <| q9 (qT rfl rfl) <| qB <| QAt.seq <| ww rfl <| Tr.seq <| Tr.region <| q9 (qC rfl) <| q9 (qC rfl) <| qB <| QAt.seq <| Tr.ret <| qe <| wC F (.inl rfl) rfl (qd rfl) (qd rfl) ?_
   exact ⟨rfl, rfl⟩
  ·
   refine qE rfl rfl (qA rfl) <| qE rfl rfl (qv rfl rfl) <| q9 (qL rfl rfl) <| qB <| QAt.seq <| qI rfl (fun hc1 => ?_) (fun hc1 => ?_)
   ·
    refine Tr.seq <| Tr.region <| q9 (qC rfl) <| q9 (qC rfl) <| qB <| QAt.seq <| Tr.ret <| qe <| wC F (.inl rfl) rfl (qd rfl) (qd rfl) ?_
    exact ⟨rfl, rfl⟩
   · (exfalso; omega)
theorem Z1 {xs ys : List Int} {i : Nat} {a b : Int} (ha : xs[i]? = some a) (hb : ys[i]? = some b) (h : xs.take i = ys.take i) (e : a = b) : xs.take (i + 1) = ys.take (i + 1) := by
  rw [List.take_add_one, List.take_add_one, h, ha, hb, e]
theorem VF {xs ys : List Int} {i : Nat} {a b : Int} (ha : xs[i]? = some a) (hb : ys[i]? = some b) (e : a ≠ b) : xs ≠ ys := by
  intro h; subst h; rw [ha] at hb; exact e (Option.some.inj hb)
theorem ints_ok (u1 u2 : Value) (C1 C2 : qM) (xs ys : List Int) (h1 : SlC 3 1 u1 xs.length (iV xs) C1) (h2 : SlC 3 1 u2 ys.length (iV ys) C2) (hl : xs.length ≤ 1000000) :
    FnT Tryz.prog w0 21 #[u1, u2] (C1 :: C2 :: F) (fun v L' => v = .bool (decide (xs = ys)) ∧ L' = C1 :: C2 :: F) := by
  obtain ⟨p1, c1, hv1⟩ := h1.slice
  obtain ⟨p2, c2, hv2⟩ := h2.slice
  refine FnT.enter (E0 := [(0, _), (1, _)]) (N := 26) Tryz.func21 rfl rfl rfl rfl ?_
  refine Tr.seq <| Tr.region <| q9 (qC rfl) <| qB <| QAt.seq <| Tr.seq <| Tr.seq <| Tr.region <| q9 (qA rfl) <| q9 (qg (by rw [hv1]; rfl)) ?_
  refine q9 (qA rfl) <| q9 (qg (by rw [hv2]; rfl)) ?_
  refine q9 (wZ rfl rfl) <| qB <| QAt.seq <| qI rfl (fun hc1 => ?_) (fun hc1 => ?_)
  ·
   refine Tr.seq <| Tr.region <| q9 (qC rfl) <| qB <| QAt.seq <| Tr.ret <| qe <| qs (C1 :: C2 :: F) (.inl rfl) rfl (qd rfl) ?_
   exact ⟨congrArg Value.bool (decide_eq_false (fun h : xs = ys => hc1 (by rw [h]))).symm, rfl⟩
  ·
   refine Tr.skip <| QAt.seq <| Tr.seq <| Tr.seq <| Tr.region <| q9 (qA rfl) <| q9 (qg (by rw [hv1]; rfl)) ?_
   refine q9 (qA rfl) <| qB <| QAt.seq <| Tr.block <| wB (Γ := {pΓ : (Nat) // (fun (i : Nat) => i ≤ xs.length ∧ xs.take i = ys.take i) pΓ}) (fun g => (fun (i : Nat) => [(0, u1), (1, u2), (12, .int .i64 xs.length), (13, .int .i64 i)]) g.1) (fun g => (fun (i : Nat) => C1 :: C2 :: F) g.1) (fun g => (fun (i : Nat) => xs.length - i) g.1) ⟨0, by dsimp only; exact ⟨by omega, rfl⟩⟩ (qP _) ?_
   rintro ⟨i, hloop⟩
   replace hloop : i ≤ xs.length ∧ xs.take i = ys.take i := hloop
   obtain ⟨hi, he⟩ := hloop
   show Tr _ _ _ ([(0, u1), (1, u2), (12, .int .i64 xs.length), (13, .int .i64 i)]) (C1 :: C2 :: F) _ _
   refine Tr.seq <| Tr.region <| q9 (qv rfl rfl) <| qB <| QAt.seq <| Tr.seq <| qI rfl (fun hc4 => ?_) (fun hc4 => ?_)
   ·
    refine Tr.skip <| QAt.seq <| Tr.seq <| Tr.block <| Tr.seq <| Tr.region <| q9 (qA rfl) <| q9 (qC rfl) <| qB <| QAt.seq <| Tr.seq ?_
    obtain ⟨a, ha⟩ : ∃ a, xs[i]? = some a := ⟨_, List.getElem?_eq_getElem (by omega)⟩
    obtain ⟨b, hb⟩ : ∃ b, ys[i]? = some b := ⟨_, List.getElem?_eq_getElem (by omega)⟩
    rcases h1 with ⟨-, h0, -⟩ | ⟨bA, capA, spA, rfl, hcsA, rfl, hcapA, hncA⟩
    · omega
    rcases h2 with ⟨-, h0, -⟩ | ⟨bB, capB, spB, rfl, hcsB, rfl, hcapB, hncB⟩
    · omega
    refine Tr.drawn qm <| qr [(16, .pure _), (17, .pure _), (18, .pure _), (19, .pure _), (20, .pure _), (21, .pure _), (22, .pure _), (23, .pure _)] (by kernel_rfl) rfl rfl rfl wL (ParH.pure rfl (fun X => qA rfl) <| ParH.pure rfl (fun X => qA rfl) <| ParH.pure rfl (fun X => qf (j := i) (off := i * 1) rfl rfl rfl (by omega) (by simp)) <| ParH.pure rfl (fun X => qG rfl (jG ha)) <| ParH.pure rfl (fun X => qA rfl) <| ParH.pure rfl (fun X => qA rfl) <| ParH.pure rfl (fun X => qf (j := i) (off := i * 1) rfl rfl rfl (by omega) (by simp)) <| ParH.pure rfl (fun X => qG rfl (jG hb)) <| ParH.nil rfl) ?_
    dsimp only [zG, List.drop, List.length]
    refine qq (by kernel_rfl) (wZ rfl rfl) ?_
    refine qt <| QAt.seq <| qI rfl (fun hc6 => ?_) (fun hc6 => ?_)
    ·
     refine Tr.seq <| Tr.region <| q9 (qC rfl) <| qB <| QAt.seq <| Tr.ret <| qu <| qe <| yb <| qu <| qe <| qs ([(bA, .cells (iV xs ++ spA).toArray 3 (0, 0))] :: [(bB, .cells (iV ys ++ spB).toArray 3 (0, 0))] :: F) (.inl rfl) rfl (qd rfl) ?_
     exact ⟨congrArg Value.bool (decide_eq_false (VF ha hb hc6)).symm, rfl⟩
    ·
     refine Tr.skip <| QAt.block <| QAt.seq <| Tr.region <| q9 (qj rfl rfl (by omega)) <| q9 (qA rfl) <| qB <| qh ⟨i + 1, ?_⟩ ?_ ?_
     · (try dsimp only); exact ⟨by omega, Z1 ha hb he (by omega)⟩
     · (try dsimp only); omega
     · (try dsimp only); exact qP _
   ·
    refine Tr.exit <| qX <| qY <| qS <| QAt.seq <| Tr.seq <| Tr.region <| q9 (qC rfl) <| qB <| QAt.seq <| Tr.ret <| qs (C1 :: C2 :: F) (.inl rfl) rfl (qd rfl) ?_
    rw [List.take_of_length_le (by omega), List.take_of_length_le (by omega)] at he
    exact ⟨congrArg Value.bool (decide_eq_true he).symm, rfl⟩
theorem equal_ok (u1 u2 : Value) (C1 C2 : qM) (xs ys : List Int) (h1 : SlC 5 1 u1 xs.length (u8s xs) C1) (h2 : SlC 5 1 u2 ys.length (u8s ys) C2) (hl : xs.length ≤ 1000000) :
    FnT Tryz.prog w0 30 #[u1, u2] (C1 :: C2 :: F) (fun v L' => v = .bool (decide (xs = ys)) ∧ L' = C1 :: C2 :: F) := by
  obtain ⟨p1, c1, hv1⟩ := h1.slice
  obtain ⟨p2, c2, hv2⟩ := h2.slice
  refine FnT.enter (E0 := [(0, _), (1, _)]) (N := 26) Tryz.func30 rfl rfl rfl rfl ?_
  refine Tr.seq <| Tr.region <| q9 (qC rfl) <| qB <| QAt.seq <| Tr.seq <| Tr.seq <| Tr.region <| q9 (qA rfl) <| q9 (qg (by rw [hv1]; rfl)) ?_
  refine q9 (qA rfl) <| q9 (qg (by rw [hv2]; rfl)) ?_
  refine q9 (wZ rfl rfl) <| qB <| QAt.seq <| qI rfl (fun hc1 => ?_) (fun hc1 => ?_)
  ·
   refine Tr.seq <| Tr.region <| q9 (qC rfl) <| qB <| QAt.seq <| Tr.ret <| qe <| qs (C1 :: C2 :: F) (.inl rfl) rfl (qd rfl) ?_
   exact ⟨congrArg Value.bool (decide_eq_false (fun h : xs = ys => hc1 (by rw [h]))).symm, rfl⟩
  ·
   refine Tr.skip <| QAt.seq <| Tr.seq <| Tr.seq <| Tr.region <| q9 (qC rfl) <| qB <| QAt.seq <| Tr.block <| wB (Γ := {pΓ : (Nat) // (fun (i : Nat) => i ≤ xs.length ∧ xs.take i = ys.take i) pΓ}) (fun g => (fun (i : Nat) => [(0, u1), (1, u2), (5, .int .i64 i)]) g.1) (fun g => (fun (i : Nat) => C1 :: C2 :: F) g.1) (fun g => (fun (i : Nat) => xs.length - i) g.1) ⟨0, by dsimp only; exact ⟨by omega, rfl⟩⟩ (qP _) ?_
   rintro ⟨i, hloop⟩
   replace hloop : i ≤ xs.length ∧ xs.take i = ys.take i := hloop
   obtain ⟨hi, he⟩ := hloop
   show Tr _ _ _ ([(0, u1), (1, u2), (5, .int .i64 i)]) (C1 :: C2 :: F) _ _
   refine Tr.seq <| Tr.seq <| Tr.region <| q9 (qA rfl) <| q9 (qA rfl) <| q9 (qg (by rw [hv1]; rfl)) ?_
   refine q9 (qv rfl rfl) <| qB <| QAt.seq <| qI rfl (fun hc4 => ?_) (fun hc4 => ?_)
   ·
    refine Tr.skip <| QAt.seq <| Tr.seq <| Tr.block <| Tr.seq ?_
    obtain ⟨a, ha⟩ : ∃ a, xs[i]? = some a := ⟨_, List.getElem?_eq_getElem (by omega)⟩
    obtain ⟨b, hb⟩ : ∃ b, ys[i]? = some b := ⟨_, List.getElem?_eq_getElem (by omega)⟩
    rcases h1 with ⟨-, h0, -⟩ | ⟨bA, capA, spA, rfl, hcsA, rfl, hcapA, hncA⟩
    · omega
    rcases h2 with ⟨-, h0, -⟩ | ⟨bB, capB, spB, rfl, hcsB, rfl, hcapB, hncB⟩
    · omega
    refine Tr.drawn qm <| qr [(17, .pure _), (18, .pure _), (19, .pure _), (20, .pure _), (21, .pure _), (22, .pure _), (23, .pure _), (24, .pure _)] (by kernel_rfl) rfl rfl rfl wL (ParH.pure rfl (fun X => qA rfl) <| ParH.pure rfl (fun X => qA rfl) <| ParH.pure rfl (fun X => qf (j := i) (off := i * 1) rfl rfl rfl (by omega) (by simp)) <| ParH.pure rfl (fun X => qG rfl (show wG (u8s xs ++ spA) (i * 1) = some (.int .u8 a) by rw [wi, Nat.mul_one, List.getElem?_append_left (by simp [u8s]; omega)]; simp [u8s, ha])) <| ParH.pure rfl (fun X => qA rfl) <| ParH.pure rfl (fun X => qA rfl) <| ParH.pure rfl (fun X => qf (j := i) (off := i * 1) rfl rfl rfl (by omega) (by simp)) <| ParH.pure rfl (fun X => qG rfl (show wG (u8s ys ++ spB) (i * 1) = some (.int .u8 b) by rw [wi, Nat.mul_one, List.getElem?_append_left (by simp [u8s]; omega)]; simp [u8s, hb])) <| ParH.nil rfl) ?_
    dsimp only [zG, List.drop, List.length]
    refine qq (by kernel_rfl) (wZ rfl rfl) ?_
    refine qt <| QAt.seq <| qI rfl (fun hc6 => ?_) (fun hc6 => ?_)
    ·
     refine Tr.seq <| Tr.region <| q9 (qC rfl) <| qB <| QAt.seq <| Tr.ret <| qu <| qe <| yb <| qu <| qe <| qs ([(bA, .cells (u8s xs ++ spA).toArray 5 (0, 0))] :: [(bB, .cells (u8s ys ++ spB).toArray 5 (0, 0))] :: F) (.inl rfl) rfl (qd rfl) ?_
     exact ⟨congrArg Value.bool (decide_eq_false (VF ha hb hc6)).symm, rfl⟩
    ·
     refine Tr.skip <| QAt.block <| QAt.seq <| Tr.region <| q9 (qA rfl) <| q9 (qj rfl rfl (by omega)) <| q9 (qC rfl) <| qB <| qh ⟨i + 1, ?_⟩ ?_ ?_
     · (try dsimp only); exact ⟨by omega, Z1 ha hb he (by omega)⟩
     · (try dsimp only); omega
     · (try dsimp only); exact qP _
   ·
    refine Tr.exit <| qX <| qY <| qS <| QAt.seq <| Tr.seq <| Tr.region <| q9 (qC rfl) <| qB <| QAt.seq <| Tr.ret <| qs (C1 :: C2 :: F) (.inl rfl) rfl (qd rfl) ?_
    rw [List.take_of_length_le (by omega), List.take_of_length_le (by omega)] at he
    exact ⟨congrArg Value.bool (decide_eq_true he).symm, rfl⟩
end Go.Proofs.YtjikpomndbkfgaaGreatDoor
namespace Go.Sx
open Go
variable {P : Program} {N : Nat} {w0 : World} {E : Env} {L : Res}
theorem run_equalIn_ptrNil {w : World} (n : Nat) (t e : TypeId) (p : Option Addr) (h : P.underlying t = some (.pointer e)) :
    (Op.equalIn (n + 1) t (.pointer p) (.pointer none)).run P w = .ok p.isNone w := by
  cases p <;> simp [Op.equalIn, qi h]
theorem run_neq_ptrNil {w : World} (t e : TypeId) (p : Option Addr) (h : P.underlying t = some (.pointer e)) :
    (binOp .neq t (.pointer p) (.pointer none)).run P w = .ok (.bool !p.isNone) w := by
  simp only [binOp]
  simp [show Op.equal t (.pointer p) (.pointer none) = Op.equalIn (9999 + 1) t (.pointer p) (.pointer none) from rfl, run_equalIn_ptrNil 9999 t e p h]
theorem op_neqPtrNil {x y : Operand} {t yt ty e : TypeId} {p : Option Addr} (hx : opv E x = some (.pointer p)) (hy : opv E y = some (.pointer none)) (h : P.underlying t = some (.pointer e)) : Op1 P N w0 E L (.binOp .neq t x y yt) ty (.bool !p.isNone) L :=
  .of_run fun o a w h1 _ h3 h4 => ⟨w, by
    have hg : (eqGuard .neq t x y (.pointer p) (.pointer none)).run P w = .ok () w := rfl
    rw [execOp, h1]
    simp only [Sem.run_bind, h3.eval hx, h3.eval hy, hg, Result.andThen_ok, run_neq_ptrNil t e p h]
    rfl, h4⟩
end Go.Sx
namespace Go.Proofs.YtjikpomndbkfgaaGreatDoor
open Go Go.Sx Go.Nd
variable {w0 : World} {L F : Res} {ba bl : Nat}
set_option maxRecDepth 10000
theorem ref_num {W : RS} {v : List Value} {C : qM} (h : RefC ba bl W v C) : wG v 0 = some (.int .u32 W.num) := by
  obtain ⟨ug, Cg, rfl, -, -⟩ := h; rfl
theorem ref_ver {W : RS} {v : List Value} {C : qM} (h : RefC ba bl W v C) : wG v 1 = some (.int .u32 W.ver) := by
  obtain ⟨ug, Cg, rfl, -, -⟩ := h; rfl
theorem Wl {W : RS} {v : List Value} {C : qM} (h : RefC ba bl W v C) : wG v 11 = some (.int .i64 W.self.at_) := by
  obtain ⟨ug, Cg, rfl, -, -⟩ := h; rfl
theorem Kc (x p md : Nat) (v : List Value) (nx : Int) (dn : Bool) (od : Obj) (W : RS) (C : qM) (hw : RefC ba bl W v C) (k : Int × Int) :
    FnT Tryz.prog w0 32 #[.pointer (some ⟨x, 0, none⟩), .agg (wt k).toArray] (StD x p v md nx dn od :: F) (fun v' L' => v' = .agg (Qf W.num W.ver k).toArray ∧ L' = StD x p v md nx dn od :: F) := by
  rw [show wt k = [.int .i64 k.1, .int .i64 k.2] from rfl]
  have hv := hw.len
  refine FnT.enter (E0 := [(0, _), (1, _)]) (N := 20) Tryz.func32 rfl rfl rfl rfl ?_
  refine Tr.seq <| Tr.region <| qF (wT rfl) ?_
  rintro t3 _ ⟨b3, rfl, rfl⟩
  refine qF (qV) ?_
  rintro t4 _ ⟨b4, rfl, rfl⟩
  refine qB <| QAt.seq <| Tr.seq <| Tr.drawn qm <| qr [(5, .pure _), (6, .pure _), (7, .pure _), (8, .pure _), (9, .pure _), (10, .pure _), (11, .pure _), (12, .pure _), (13, .pure _), (14, .pure _), (15, .pure _), (16, .pure _), (17, .pure _), (18, .pure _)] (by kernel_rfl) rfl rfl rfl wL (ParH.pure rfl (fun X => qD rfl) <| ParH.pure rfl (fun X => qG rfl rfl) <| ParH.pure rfl (fun X => qA rfl) <| ParH.pure rfl (fun X => qJ rfl) <| ParH.pure rfl (fun X => qD rfl) <| ParH.pure rfl (fun X => qk rfl) <| ParH.pure rfl (fun X => qG rfl ((YZ hv (by decide)).trans (ref_num hw))) <| ParH.pure rfl (fun X => qA rfl) <| ParH.pure rfl (fun X => qJ rfl) <| ParH.pure rfl (fun X => qD rfl) <| ParH.pure rfl (fun X => qk rfl) <| ParH.pure rfl (fun X => qG rfl ((YZ hv (by decide)).trans (ref_ver hw))) <| ParH.pure rfl (fun X => qD rfl) <| ParH.pure rfl (fun X => qG rfl rfl) <| ParH.nil rfl) ?_
  dsimp only [zG, List.drop, List.length]
  refine qq (by kernel_rfl) (wF rfl) ?_
  refine k0 (by kernel_rfl) (wJ rfl rfl rfl rfl) ?_
  refine qt <| QAt.seq <| Tr.ret <| qs (StD x p v md nx dn od :: F) (.inl rfl) rfl (zB rfl) ?_
  exact ⟨rfl, rfl⟩
theorem X4 (G : qM) (hg : kJ G) : FnT Tryz.prog w0 7 #[.int .i64 0] (G :: F) (fun v' L' => ∃ x p md ba bl v C Cn od, v' = .tuple #[.pointer (some ⟨x, 0, none⟩), .bool true] ∧ NodeC p (Z7 3 7 1) Cn ∧ RefC ba bl (W5 3 7 1) v C ∧
      MapF (Value.int .i64) kf (fun _ => none) od ∧ L' = StD x p v md 100 false od :: Cn :: C :: G :: F) := by
  refine FnT.enter (E0 := [(0, _)]) (N := 21) Tryz.func7 rfl rfl rfl rfl ?_
  refine Tr.seq <| Tr.region <| q9 (qC rfl) <| q9 (qC rfl) <| qB <| QAt.seq <| Tr.seq <| Tr.region <| q9 (qA rfl) <| q9 (QX rfl rfl) ?_
  rw [show zH .and .i64 0 1 = 0 from by decide]
  refine q9 (qj rfl rfl (by omega)) <| q9 (qC rfl) <| qB <| QAt.seq <| zA (Γ := {pΓ : (Nat) × (Nat) × (Nat) × (Nat) × (Nat) × (List Value) × (qM) × (qM) × (Obj) // (fun (x : Nat) (p : Nat) (md : Nat) (ba : Nat) (bl : Nat) (v : List Value) (C : qM) (Cn : qM) (od : Obj) => NodeC p (Z7 3 7 1) Cn ∧ RefC ba bl (W5 3 7 1) v C ∧ MapF (Value.int .i64) kf (fun _ => none) od) pΓ.1 pΓ.2.1 pΓ.2.2.1 pΓ.2.2.2.1 pΓ.2.2.2.2.1 pΓ.2.2.2.2.2.1 pΓ.2.2.2.2.2.2.1 pΓ.2.2.2.2.2.2.2.1 pΓ.2.2.2.2.2.2.2.2}) (fun g => (fun (x : Nat) (p : Nat) (md : Nat) (ba : Nat) (bl : Nat) (v : List Value) (C : qM) (Cn : qM) (od : Obj) => [(4, .pointer (some ⟨x, 0, none⟩))]) g.1.1 g.1.2.1 g.1.2.2.1 g.1.2.2.2.1 g.1.2.2.2.2.1 g.1.2.2.2.2.2.1 g.1.2.2.2.2.2.2.1 g.1.2.2.2.2.2.2.2.1 g.1.2.2.2.2.2.2.2.2) (fun g => (fun (x : Nat) (p : Nat) (md : Nat) (ba : Nat) (bl : Nat) (v : List Value) (C : qM) (Cn : qM) (od : Obj) => StD x p v md 100 false od :: Cn :: C :: G :: F) g.1.1 g.1.2.1 g.1.2.2.1 g.1.2.2.2.1 g.1.2.2.2.2.1 g.1.2.2.2.2.2.1 g.1.2.2.2.2.2.2.1 g.1.2.2.2.2.2.2.2.1 g.1.2.2.2.2.2.2.2.2) ?_ ?_
  ·
   refine Tr.region <| q9 (qA rfl) <| qF (qn rfl (wM (G) (Xy G hg 3 7 1))) ?_
   rintro t9 _ ⟨p, Cn, rfl, hn, rfl⟩
   refine q9 (qA rfl) <| qF (qn rfl (rnew_ok 3 7 1)) ?_
   rintro t11 _ ⟨ba, bl, l, C, rfl, hr, rfl⟩
   obtain ⟨ug, Cg, hlv, hsg, hC⟩ := id hr
   rw [hlv]
   unfold k6
   refine qF (k8) ?_
   rintro t12 _ ⟨b12, rfl, rfl⟩
   refine q9 (wF rfl) <| qF (wT rfl) ?_
   rintro t14 _ ⟨b14, rfl, rfl⟩
   refine q9 (qC rfl) <| qB <| qO ⟨(b14, p, b12, ba, bl, l, C, Cn, .map #[] 0), ?_⟩ ?_
   · (try dsimp only); exact ⟨hn, hr, kA _ _⟩
   · (try dsimp only); exact (by rw [hlv]; simp only [StD, stV, k6, List.cons_append, List.nil_append]; exact (yI (by intro f; simp only [List.flatten_cons, List.flatten_nil, List.append_nil, List.countP_append, List.countP_cons, List.countP_nil]; omega)))
  rintro ⟨⟨x, p, md, ba, bl, v, C, Cn, od⟩, hcut⟩
  replace hcut : NodeC p (Z7 3 7 1) Cn ∧ RefC ba bl (W5 3 7 1) v C ∧ MapF (Value.int .i64) kf (fun _ => none) od := hcut
  obtain ⟨hn, hr, hD⟩ := hcut
  show Tr _ _ _ ([(4, .pointer (some ⟨x, 0, none⟩))]) (StD x p v md 100 false od :: Cn :: C :: G :: F) _ _
  refine Tr.seq <| Tr.drawn qm <| qr [(15, .pure _), (16, .pure _), (17, .pure _), (18, .pure _), (19, .pure _), (20, .pure _), (2, .pure _)] (by kernel_rfl) rfl rfl rfl wL (ParH.pure rfl (fun X => qA rfl) <| ParH.pure rfl (fun X => qA rfl) <| ParH.pure rfl (fun X => qJ rfl) <| ParH.pure rfl (fun X => qD rfl) <| ParH.pure rfl (fun X => qG rfl rfl) <| ParH.pure rfl (fun X => op_neqPtrNil rfl rfl Tryz.underlying33) <| ParH.pure rfl (fun X => qC rfl) <| ParH.nil rfl) ?_
  dsimp only [zG, List.drop, List.length]
  refine qq (by kernel_rfl) (qC rfl) ?_
  refine qt <| QAt.seq <| Tr.ret <| QM (.inl rfl) rfl (qd rfl) (qd rfl) ?_
  exact ⟨x, p, md, ba, bl, v, C, Cn, od, rfl, hn, hr, hD, rfl⟩
end Go.Proofs.YtjikpomndbkfgaaGreatDoor
namespace Go.Sx
open Go
variable {P : Program} {N : Nat} {w0 : World} {E : Env} {L : Res}
theorem Wr {x y : Operand} {t t' ty e sz by_ n m : Nat} {v yv : Value} {cs ys : List Value} {C : qM} {F : Res} {z : Value} {dt' : TypeDesc} [ht : zt P t e] [hsz : TySize P e sz] [hb : TyBytes P e by_] [hz : TyZero P e z]
    (hx : opv E x = some v) (hy : opv E y = some yv) [ht1 : Take1 L C F] (hs : SlC e sz v n cs C) (hr : Reads w0 L yv m sz ys) (h1 : ys.all (·.oneCell') = true)
    (ht' : P.underlying t' = some dt') (hdt : JM dt' = false) (hzs : z.cells.size = sz) (hroom : (n + m) * by_ ≤ 140737488355328) (hby : Nat.ble 1 by_ = true := by rfl) :
    OpT P N w0 E L (.call ⟨.builtin .append, #[x, y], #[t, t']⟩) ty (fun v' L' => ∃ C' X C2, SlC e sz v' (n + m) (cs ++ ys) C' ∧ SlC e sz v n cs C2 ∧ (∀ (w0 : World) (F : Res) (w : World), Own w0 (C' :: X :: F) w → Own w0 (C2 :: F) w) ∧ L' = C' :: X :: F) :=
  .of_runE fun o a w e1 _ h3 h4 => by
    obtain ⟨cc, h5⟩ := yY (P := P) (w := w) (vs := [v, yv]) h3 (by simp [jO, hx, hy]) e1
    have hown : Own w0 (C :: F) w := h4.perm ht1.perm
    have hby' : 1 ≤ by_ := Nat.le_of_ble_eq_true hby
    obtain ⟨p, c, hyv, hylen, hyr⟩ := hr.h
    have hfc : ∀ d, (Builtin.firstCells sz m yv).run P { w with drawn := d } = .ok ys.toArray { w with drawn := d } := fun d => hr.firstCells (h4.draw0 d) (fun h => by
      rw [hyv] at h; cases h
      rcases hyr with h | ⟨_, _, _, _, _, h, _⟩
      · exact h
      · cases h)
    have hlen : (Builtin.lenOf yv).run P w = .ok m w := by rw [hyv]; simp [Builtin.lenOf]
    have happ : ∀ (s : Value), (builtin .append #[t, t'] o.type cc #[s, yv]).run P w = ((Builtin.append_ #[t, t'] o.type #[s, yv]).run P w).andThen fun v w' => .ok (.value v) w' := fun s => by simp [builtin]
    have h5' : (execOp a.eval o).run P w = ((Builtin.append_ #[t, t'] o.type #[v, yv]).run P w).andThen fun v w' => .ok (.value v) w' := by rw [h5]; exact happ v
    have grown : ∀ (q : Option Addr) (cap : Nat), v = .slice q n cap → (∀ d, (Builtin.firstCells sz n v).run P { w with drawn := d } = .ok cs.toArray { w with drawn := d }) → ¬ n + m ≤ cap → cs.length = n * sz →
        ∃ v' L' w', (execOp a.eval o).run P w = .ok (.value v') w' ∧ (∃ C' X C2, SlC e sz v' (n + m) (cs ++ ys) C' ∧ SlC e sz v n cs C2 ∧ (∀ (w0 : World) (F : Res) (w : World), Own w0 (C' :: X :: F) w → Own w0 (C2 :: F) w) ∧ L' = C' :: X :: F) ∧ Own w0 L' w' := by
      intro q cap hv hold hgt hcs
      obtain ⟨nc, d, hle, hdd, hrun⟩ := Qm (ty := o.type) (cs := cs) (ys := ys) ht.h hsz.s hb hz.h ht' hdt hlen q hgt hroom hby' (fun d => by rw [← hv]; exact hold d) hfc
      refine ⟨_, [(w.heap.size, .cells (cs.toArray ++ ys.toArray ++ Builtin.zeroCells z.cells (nc - (n + m))) e (0, 0))] :: C :: F, _, by rw [h5', hv, hrun]; rfl, ⟨_, C, C, .inr ⟨w.heap.size, nc, (Builtin.zeroCells z.cells (nc - (n + m))).toList, rfl, by rw [List.length_append, hcs, hylen, Nat.add_mul], by simp, ?_, hle⟩, hs, fun _ _ _ h => h.tail, rfl⟩, ?_⟩
      · simp only [List.length_append, hcs, hylen, Array.length_toList, xO, hzs]
        rw [← Nat.add_mul, ← Nat.add_mul]
        congr 1
        omega
      · have := (hown.draw d hdd).alloc (.cells (cs.toArray ++ ys.toArray ++ Builtin.zeroCells z.cells (nc - (n + m))) e (0, 0))
        exact this
    rcases id hs with ⟨rfl, rfl, rfl, rfl⟩ | ⟨b, cap, spare, rfl, hcs, rfl, hcap, hnc⟩
    · by_cases hm : 0 + m ≤ 0
      · have hm0 : m = 0 := by omega
        subst hm0
        have hys : ys = [] := List.length_eq_zero_iff.1 (by rw [hylen]; simp)
        subst hys
        have hrun := jA (ty := o.type) (w := w) (n := 0) (cap := 0) (p := none) ht.h hsz.s ht' hdt hlen (hfc w.drawn) (by omega)
        exact ⟨_, _, w, by rw [h5', hrun]; rfl, ⟨[], [], [], .inl ⟨rfl, rfl, rfl, rfl⟩, hs, fun _ _ _ h => h.tail, rfl⟩, wH (by simp) w hown⟩
      · exact grown none 0 rfl (fun d => by simp [Builtin.firstCells]) hm (by simp)
    · by_cases hm : n + m ≤ cap
      · have hrun := jA (ty := o.type) (w := w) (p := some ⟨b, 0, none⟩) ht.h hsz.s ht' hdt hlen (hfc w.drawn) hm
        have hfit : n * sz + ys.length ≤ (cs ++ spare).length := by
          rw [hcap, hylen, ← Nat.add_mul]
          exact Nat.mul_le_mul_right _ hm
        obtain ⟨w', h6, h7⟩ := kp (P := P) (off := n * sz) (vs := ys) (l := cs ++ spare) hown (At.head b _ F) rfl hfit h1
        have hcells : (cs ++ spare).take (n * sz) ++ ys ++ (cs ++ spare).drop (n * sz + ys.length) = cs ++ ys ++ spare.drop ys.length := by
          rw [← hcs, List.take_left, List.drop_append]
          simp [List.drop_of_length_le]
        rw [hcells] at h7
        refine ⟨_, _, w', ?_, ⟨[(b, .cells (cs ++ ys ++ spare.drop ys.length).toArray e (0, 0))], [], [(b, .cells (cs ++ ys ++ spare.drop ys.length).toArray e (0, 0))], .inr ⟨b, cap, spare.drop ys.length, rfl, by rw [List.length_append, hcs, hylen, Nat.add_mul], rfl, ?_, hm⟩, .inr ⟨b, cap, ys ++ spare.drop ys.length, rfl, hcs, by rw [List.append_assoc], ?_, hnc⟩, fun _ _ _ h => wH (by simp) _ h, rfl⟩, wH (by simp) w' h7⟩
        · rw [h5', hrun]
          simp only [yP, Nat.zero_add, h6, Result.andThen_ok]
        · simp only [List.length_append] at hcap hfit
          simp only [List.length_append, List.length_drop]
          omega
        · simp only [List.length_append] at hcap hfit
          simp only [List.length_append, List.length_drop]
          omega
      · refine grown (some ⟨b, 0, none⟩) cap rfl (fun d => ?_) hm hcs
        simp only [Builtin.firstCells]
        exact YM (w := { w with drawn := d }) ((hown.draw0 d).get (At.head b _ F)) (by simp [← hcs]) hcs
end Go.Sx
namespace Go.Proofs.YtjikpomndbkfgaaGreatDoor
open Go Go.Sx Go.Nd
variable {w0 : World} {L F : Res} {ba bl : Nat}
set_option maxRecDepth 10000
def x7 (nx : Int) (m : Nat) : List Int := (List.range m).map fun i : Nat => nx + i
theorem WX (nx : Int) (m : Nat) : (x7 nx m).length = m := by simp [x7]
theorem atsOf_succ (nx : Int) (m : Nat) : x7 nx (m + 1) = x7 nx m ++ [nx + m] := by simp [x7, List.range_succ]
theorem Kt (nx : Int) {m i : Nat} (h : i < m) : (x7 nx m)[i]? = some (nx + i) := by simp [x7, h]
theorem atsOf_rng {nx : Int} {m : Nat} (h1 : 1 ≤ nx) (h2 : nx + m ≤ 65536) : ∀ a ∈ x7 nx m, 1 ≤ a ∧ a ≤ 65535 := by
  intro a ha
  obtain ⟨i, hi, rfl⟩ := List.mem_map.1 ha
  have := List.mem_range.1 hi
  omega
def xS (f : Int × Int → Sec) (D : Int → Option Sec) (l : List ((Int × Int) × Int)) : Int → Option Sec := l.foldl (fun D p => upd D p.2 (some (f p.1))) D
def QE (D : Int → Option Sec) (l : List Int) : Int → Option Sec := l.foldl (fun D g => upd D g none) D
theorem putR_num (W : RS) (k : Int × Int) (a : Int) : (yu W k a).num = W.num ∧ (yu W k a).ver = W.ver ∧ (yu W k a).kind = W.kind ∧ (yu W k a).size = W.size ∧ (yu W k a).time = W.time ∧ (yu W k a).gone = W.gone := by
  unfold yu; split <;> first | exact ⟨rfl, rfl, rfl, rfl, rfl, rfl⟩ | (split <;> first | exact ⟨rfl, rfl, rfl, rfl, rfl, rfl⟩ | (split <;> first | exact ⟨rfl, rfl, rfl, rfl, rfl, rfl⟩ | (split <;> exact ⟨rfl, rfl, rfl, rfl, rfl, rfl⟩)))
theorem Qg : ∀ (l : List (Int × Int)) (bs : List Int) (s : RS × List Int), (ws l bs s).1.num = s.1.num ∧ (ws l bs s).1.ver = s.1.ver ∧ (ws l bs s).1.kind = s.1.kind ∧ (ws l bs s).1.size = s.1.size ∧ (ws l bs s).1.time = s.1.time := by
  intro l
  induction l with
  | nil => intro bs s; rw [kx]; exact ⟨rfl, rfl, rfl, rfl, rfl⟩
  | cons k l ih =>
    intro bs s
    cases bs with
    | nil => exact ⟨rfl, rfl, rfl, rfl, rfl⟩
    | cons a bs =>
      rw [ws]
      have h := ih bs (yu s.1 k a, if qZ s.1 k ≠ 0 then s.2 ++ [qZ s.1 k] else s.2)
      have h2 := putR_num s.1 k a
      refine ⟨h.1.trans h2.1, h.2.1.trans h2.2.1, h.2.2.1.trans h2.2.2.1, h.2.2.2.1.trans h2.2.2.2.1, h.2.2.2.2.trans h2.2.2.2.2.1⟩
theorem commitR_num (W : RS) (bs : List Int) : (wm W bs).num = W.num ∧ (wm W bs).ver = W.ver ∧ (wm W bs).kind = W.kind ∧ (wm W bs).size = W.size ∧ (wm W bs).time = W.time := Qg (zf W) bs (W, W.gone)
theorem commitFR_len : ∀ (l : List (Int × Int)) (bs : List Int) (s : RS × List Int), (ws l bs s).2.length ≤ s.2.length + l.length := by
  intro l
  induction l with
  | nil => intro bs s; rw [kx]; simp
  | cons k l ih =>
    intro bs s
    cases bs with
    | nil => simp [ws]
    | cons a bs =>
      rw [ws]
      refine Nat.le_trans (ih _ _) ?_
      dsimp only
      split
      · simp; omega
      · simp
theorem zip_step {A B : Type} {l : List A} {m : List B} {i : Nat} {a : A} {b : B} (h1 : l[i]? = some a) (h2 : m[i]? = some b) : (l.zip m).take (i + 1) = (l.zip m).take i ++ [(a, b)] := by
  rw [List.take_add_one, show (l.zip m)[i]? = some (a, b) from by rw [List.getElem?_zip_eq_some]; exact ⟨h1, h2⟩]; rfl
theorem putDs_step {f : Int × Int → Sec} {D : Int → Option Sec} {l : List (Int × Int)} {m : List Int} {i : Nat} {k : Int × Int} {b : Int} (h1 : l[i]? = some k) (h2 : m[i]? = some b) :
    xS f D ((l.zip m).take (i + 1)) = upd (xS f D ((l.zip m).take i)) b (some (f k)) := by
  rw [zip_step h1 h2]; unfold xS; rw [List.foldl_append]; rfl
theorem delDs_step {D : Int → Option Sec} {l : List Int} {i : Nat} {g : Int} (h : l[i]? = some g) : QE D (l.take (i + 1)) = upd (QE D (l.take i)) g none := by
  rw [List.take_add_one, h]; unfold QE; rw [List.foldl_append]; rfl
theorem lcommit_ok (H : j3 w0) (HP : xc) (x p md : Nat) (v : List Value) (nx : Int) (dn : Bool) (od : Obj) (n : NS) (W : RS) (D : Int → Option Sec) (Cn C G : qM) (l : List (Int × Int)) (ats : List Int)
    (hl : zf W = l) (hats : ats = x7 nx l.length)
    (hn : NodeC p n Cn) (hw : RefC ba bl W v C) (hD : MapF (Value.int .i64) kf D od) (hg : kJ G) (hok : NOk n) (hfl : NFl n) (hpp : y3 n = l) (hnum : n.num = W.num) (hver : n.ver = W.ver)
    (hnx1 : 1 ≤ nx) (hnx2 : nx + l.length ≤ 65536) (hgn : n.gone.length ≤ 800000) (hgl : W.gone.length ≤ 800000) (hr : ∀ a ∈ ats, 1 ≤ a ∧ a ≤ 65535) (hrok : ROk (yQ W ats))
    (hsec : ∀ k ∈ l, yF (W6 n ats) (xF hok hr) (Qa hfl ats) k = wd (yQ W ats) k)
    (hdead : srt (jx n ats) = srt (x6 W ats)) :
    FnT Tryz.prog w0 14 #[.pointer (some ⟨x, 0, none⟩)] (StD x p v md nx dn od :: Cn :: C :: G :: F) (fun r L' => r = .bool true ∧ ∃ v' C' Cn' od', NodeC p (xp n ats) Cn' ∧ RefC ba bl (wm W ats) v' C' ∧
      MapF (Value.int .i64) kf (QE (xS (wd (yQ W ats)) D (l.zip ats)) (srt (x6 W ats))) od' ∧ L' = StD x p v' md (nx + l.length) dn od' :: Cn' :: C' :: G :: F) := by
  have hv := hw.len
  have hll : l.length ≤ 1100 := hl ▸ xo W
  have hal : ats.length = l.length := by rw [hats, WX]
  have hatg : ∀ i : Nat, i < l.length → ats[i]? = some (nx + i) := fun i hi => by rw [hats]; exact Kt nx hi
  have hcm := commitR_num W ats
  have hdl : (srt (x6 W ats)).length ≤ 801100 := by
    rw [YK]
    refine Nat.le_trans (commitFR_len _ _ _) ?_
    rw [hl]; dsimp only; omega
  have hdl2 : (srt (jx n ats)).length ≤ 801100 := hdead ▸ hdl
  obtain ⟨f, hf⟩ : ∃ f, wd (yQ W ats) = f := ⟨_, rfl⟩
  have hflat : l.flatMap (fun k => yx n.num n.ver k (yF (W6 n ats) (xF hok hr) (Qa hfl ats) k)) = l.flatMap (fun k => yx W.num W.ver k (f k)) := by
    rw [hnum, hver]
    have : ∀ m : List (Int × Int), (∀ k ∈ m, k ∈ l) → m.flatMap (fun k => yx W.num W.ver k (yF (W6 n ats) (xF hok hr) (Qa hfl ats) k)) = m.flatMap (fun k => yx W.num W.ver k (f k)) := by
      intro m
      induction m with
      | nil => intro _; rfl
      | cons k m ih =>
        intro hm
        rw [List.flatMap_cons, List.flatMap_cons, ih (fun q hq => hm q (by simp [hq])), hsec k (hm k (by simp)), hf]
    exact this l (fun _ h => h)
  rw [hf]
  refine FnT.enter (E0 := [(0, _)]) (N := 155) Tryz.func14 rfl rfl rfl rfl ?_
  refine Tr.seq <| Tr.region <| q9 (qC rfl) <| qB <| QAt.seq <| Tr.seq <| Tr.region <| q9 (qC rfl) <| qB <| QAt.seq <| Tr.seq <| Tr.seq <| Tr.region <| q9 (qA rfl) <| q9 (qJ rfl) <| q9 (qD rfl) <| q9 (zQ (r := v) rfl (ky hv) hv) <| qF (qn rfl (wM (C) (xf W v C hw))) ?_
  rintro t22 _ ⟨Cp, hsp, rfl⟩
  rw [hl] at hsp
  obtain ⟨pp, cp, rfl⟩ := hsp.slice
  refine q9 (qg rfl) <| q9 (qA rfl) <| qB <| QAt.seq <| Tr.block <| wB (Γ := {pΓ : (Nat) × (Value) × (qM) // (fun (i : Nat) (us : Value) (Ca : qM) => i ≤ l.length ∧ SlC 3 1 us i (iV (x7 nx i)) Ca) pΓ.1 pΓ.2.1 pΓ.2.2}) (fun g => (fun (i : Nat) (us : Value) (Ca : qM) => [(0, .pointer (some ⟨x, 0, none⟩)), (3, us), (23, .int .i64 l.length), (24, .int .i64 i)]) g.1.1 g.1.2.1 g.1.2.2) (fun g => (fun (i : Nat) (us : Value) (Ca : qM) => Ca :: StD x p v md (nx + i) dn od :: Cn :: C :: G :: F) g.1.1 g.1.2.1 g.1.2.2) (fun g => (fun (i : Nat) (us : Value) (Ca : qM) => l.length - i) g.1.1 g.1.2.1 g.1.2.2) ⟨(0, .slice none 0 0, []), by dsimp only; exact ⟨by omega, zu _ _⟩⟩ ((by dsimp only; rw [show nx + ((0 : Nat) : Int) = nx from by omega]; exact qP _)) ?_
  rintro ⟨⟨i, us, Ca⟩, hloop⟩
  replace hloop : i ≤ l.length ∧ SlC 3 1 us i (iV (x7 nx i)) Ca := hloop
  obtain ⟨hi, hsa⟩ := hloop
  show Tr _ _ _ ([(0, .pointer (some ⟨x, 0, none⟩)), (3, us), (23, .int .i64 l.length), (24, .int .i64 i)]) (Ca :: StD x p v md (nx + i) dn od :: Cn :: C :: G :: F) _ _
  refine Tr.seq <| Tr.region <| q9 (qv rfl rfl) <| qB <| QAt.seq <| Tr.seq <| qI rfl (fun hc3 => ?_) (fun hc3 => ?_)
  ·
   refine Tr.skip <| QAt.seq <| Tr.seq <| Tr.block <| Tr.seq <| Tr.region <| q9 (qA rfl) <| q9 (qA rfl) <| q9 (qJ rfl) <| q9 (qD rfl) <| q9 (qG rfl (VD hv)) <| qF (w5 rfl rfl rfl) ?_
   rintro t31 _ ⟨b31, rfl, rfl⟩
   refine qF (wP (m := 1) (sz := 1) rfl rfl hsa (wQ (ys := iV [nx + i]) inferInstance rfl rfl) rfl Tryz.underlying39 rfl rfl (by omega)) ?_
   rintro t32 _ ⟨C', hs', rfl⟩
   refine q9 (qC rfl) <| qB <| QAt.seq <| Tr.region <| q9 (qA rfl) <| q9 (qJ rfl) <| q9 (qD rfl) <| q9 (qG rfl (VD hv)) <| q9 (qj rfl rfl (by omega)) <| q9 (qJ rfl) <| q9 (qD rfl) <| qK (zx rfl rfl (by rw [jS hv]; decide) rfl) ?_
   refine qB ?_
   rw [stV_sn hv]
   refine QAt.block <| QAt.seq <| Tr.region <| q9 (qj rfl rfl (by omega)) <| q9 (qA rfl) <| qB <| qh ⟨(i + 1, t32, C'), ?_⟩ ?_ ?_
   · (try dsimp only); exact ⟨by omega, by rw [atsOf_succ]; simpa [iV] using hs'⟩
   · (try dsimp only); omega
   · (try dsimp only); exact (by rw [show nx + ((i + 1 : Nat) : Int) = nx + i + 1 from by omega]; exact qP _)
  ·
   obtain rfl : i = l.length := by omega
   rw [← hats] at hsa
   refine Tr.exit <| qX <| qY <| qS <| QAt.seq <| Tr.seq <| zA (Γ := {pΓ : (Int) × (qM) // (fun (e : Int) (Ca2 : qM) => e = 1 ∧ SlC 3 1 us l.length (iV ats) Ca2) pΓ.1 pΓ.2}) (fun g => (fun (e : Int) (Ca2 : qM) => [(0, .pointer (some ⟨x, 0, none⟩)), (3, us), (6, .int .i64 e)]) g.1.1 g.1.2) (fun g => (fun (e : Int) (Ca2 : qM) => Ca2 :: StD x p v md (nx + l.length) dn od :: Cn :: C :: G :: F) g.1.1 g.1.2) ?_ ?_
   ·
    refine yL qm (show TrS _ _ _ _ [false, false, false, false, false, false, false, false, false, false, false, false, false, false, false] _ _ _ from ?_)
    refine TrS.take 0 rfl rfl (by kernel_rfl) rfl (w6 rfl) ?_
    refine TrS.take 1 rfl rfl (by kernel_rfl) rfl (y0 rfl) ?_
    refine TrS.take 2 rfl rfl (by kernel_rfl) rfl (wY rfl) ?_
    refine TrS.take 4 rfl rfl (by kernel_rfl) rfl (w6 rfl) ?_
    refine wg (i := 3) (j := 5) (by kernel_rfl) rfl ?_ ?_
    ·
     refine qQ rfl rfl rfl (qG rfl j4) <| TrS.one (i := 5) (by kernel_rfl) rfl ?_
     refine qp rfl rfl rfl (w5 rfl rfl rfl) ?_
     rintro t47 _ ⟨b47, rfl, rfl⟩
     refine TrS.one (i := 6) (by kernel_rfl) rfl ?_
     refine qp rfl rfl rfl (Wr (m := 1) (sz := 1) rfl rfl hsa (wQ (ys := iV [5]) inferInstance rfl rfl) rfl Tryz.underlying39 rfl rfl (by omega)) ?_
     rintro t48 _ ⟨C', X, Ca2, hs', hsa2, hX, rfl⟩
     have hs2 : SlC 3 1 t48 (ats ++ [5]).length (iV (ats ++ [5])) C' := by rw [List.length_append, hal]; simpa [iV] using hs'
     refine TrS.one (i := 7) (by kernel_rfl) rfl ?_
     refine qQ rfl rfl rfl (qw rfl (JY (Cn) (G) (C') (Q0 H HP p n Cn G C' hn hg hok t48 (ats ++ [5]) hs2 (by rw [hpp, List.length_append, hal]; simp) (by rw [List.length_append, hal]; simp; omega)))) ?_
     refine TrS.take 8 rfl rfl (by kernel_rfl) rfl (w6 rfl) ?_
     refine TrS.take 9 rfl rfl (by kernel_rfl) rfl (qU rfl rfl) ?_
     refine TrS.take 10 rfl rfl (by kernel_rfl) rfl (qU rfl rfl) ?_
     refine TrS.take 11 rfl rfl (by kernel_rfl) rfl (qU rfl rfl) ?_
     refine TrS.take 12 rfl rfl (by kernel_rfl) rfl (wA rfl) ?_
     refine TrS.take 13 rfl rfl (by kernel_rfl) rfl (wA rfl) ?_
     refine TrS.take 14 rfl rfl (by kernel_rfl) rfl (wA rfl) ?_
     refine qy (by kernel_rfl) ?_
     refine qO ⟨(1, Ca2), ?_⟩ ?_
     · (try dsimp only); exact ⟨rfl, hsa2⟩
     · (try dsimp only); exact (fun w hw => hX _ _ w (qP (C' :: X :: StD x p v md (nx + l.length) dn od :: Cn :: C :: G :: F) w hw))
    ·
     refine qp rfl rfl rfl (w5 rfl rfl rfl) ?_
     rintro t47 _ ⟨b47, rfl, rfl⟩
     refine wg (i := 3) (j := 6) (by kernel_rfl) rfl ?_ ?_
     ·
      refine qQ rfl rfl rfl (qG rfl j4) <| TrS.one (i := 6) (by kernel_rfl) rfl ?_
      refine qp rfl rfl rfl (Wr (m := 1) (sz := 1) rfl rfl hsa (wQ (ys := iV [5]) inferInstance rfl rfl) rfl Tryz.underlying39 rfl rfl (by omega)) ?_
      rintro t48 _ ⟨C', X, Ca2, hs', hsa2, hX, rfl⟩
      have hs2 : SlC 3 1 t48 (ats ++ [5]).length (iV (ats ++ [5])) C' := by rw [List.length_append, hal]; simpa [iV] using hs'
      refine TrS.one (i := 7) (by kernel_rfl) rfl ?_
      refine qQ rfl rfl rfl (qw rfl (JY (Cn) (G) (C') (Q0 H HP p n Cn G C' hn hg hok t48 (ats ++ [5]) hs2 (by rw [hpp, List.length_append, hal]; simp) (by rw [List.length_append, hal]; simp; omega)))) ?_
      refine TrS.take 8 rfl rfl (by kernel_rfl) rfl (w6 rfl) ?_
      refine TrS.take 9 rfl rfl (by kernel_rfl) rfl (qU rfl rfl) ?_
      refine TrS.take 10 rfl rfl (by kernel_rfl) rfl (qU rfl rfl) ?_
      refine TrS.take 11 rfl rfl (by kernel_rfl) rfl (qU rfl rfl) ?_
      refine TrS.take 12 rfl rfl (by kernel_rfl) rfl (wA rfl) ?_
      refine TrS.take 13 rfl rfl (by kernel_rfl) rfl (wA rfl) ?_
      refine TrS.take 14 rfl rfl (by kernel_rfl) rfl (wA rfl) ?_
      refine qy (by kernel_rfl) ?_
      refine qO ⟨(1, Ca2), ?_⟩ ?_
      · (try dsimp only); exact ⟨rfl, hsa2⟩
      · (try dsimp only); exact (fun w hw => hX _ _ w (qP (C' :: X :: StD x p v md (nx + l.length) dn od :: Cn :: C :: G :: F) w hw))
     ·
      refine qp rfl rfl rfl (Wr (m := 1) (sz := 1) rfl rfl hsa (wQ (ys := iV [5]) inferInstance rfl rfl) rfl Tryz.underlying39 rfl rfl (by omega)) ?_
      rintro t48 _ ⟨C', X, Ca2, hs', hsa2, hX, rfl⟩
      have hs2 : SlC 3 1 t48 (ats ++ [5]).length (iV (ats ++ [5])) C' := by rw [List.length_append, hal]; simpa [iV] using hs'
      refine TrS.one (i := 3) (by kernel_rfl) rfl ?_
      refine qQ rfl rfl rfl (qG rfl j4) <| TrS.one (i := 7) (by kernel_rfl) rfl ?_
      refine qQ rfl rfl rfl (qw rfl (JY (Cn) (G) (C') (Q0 H HP p n Cn G C' hn hg hok t48 (ats ++ [5]) hs2 (by rw [hpp, List.length_append, hal]; simp) (by rw [List.length_append, hal]; simp; omega)))) ?_
      refine TrS.take 8 rfl rfl (by kernel_rfl) rfl (w6 rfl) ?_
      refine TrS.take 9 rfl rfl (by kernel_rfl) rfl (qU rfl rfl) ?_
      refine TrS.take 10 rfl rfl (by kernel_rfl) rfl (qU rfl rfl) ?_
      refine TrS.take 11 rfl rfl (by kernel_rfl) rfl (qU rfl rfl) ?_
      refine TrS.take 12 rfl rfl (by kernel_rfl) rfl (wA rfl) ?_
      refine TrS.take 13 rfl rfl (by kernel_rfl) rfl (wA rfl) ?_
      refine TrS.take 14 rfl rfl (by kernel_rfl) rfl (wA rfl) ?_
      refine qy (by kernel_rfl) ?_
      refine qO ⟨(1, Ca2), ?_⟩ ?_
      · (try dsimp only); exact ⟨rfl, hsa2⟩
      · (try dsimp only); exact (fun w hw => hX _ _ w (qP (C' :: X :: StD x p v md (nx + l.length) dn od :: Cn :: C :: G :: F) w hw))
   rintro ⟨⟨e, Ca2⟩, hcut⟩
   replace hcut : e = 1 ∧ SlC 3 1 us l.length (iV ats) Ca2 := hcut
   obtain ⟨he, hsa2⟩ := hcut
   show Tr _ _ _ ([(0, .pointer (some ⟨x, 0, none⟩)), (3, us), (6, .int .i64 e)]) (Ca2 :: StD x p v md (nx + l.length) dn od :: Cn :: C :: G :: F) _ _
   refine Tr.seq <| Tr.region <| q9 (qA rfl) <| q9 (wZ rfl rfl) <| qB <| QAt.seq <| qI rfl (fun hc8 => ?_) (fun hc8 => ?_)
   · (exfalso; omega)
   ·
    refine Tr.skip <| QAt.seq <| Tr.seq ?_
    have hsa3 : SlC 3 1 us ats.length (iV ats) Ca2 := by rw [hal]; exact hsa2
    refine Tr.region <| q9 (qA rfl) <| q9 (qJ rfl) <| q9 (qD rfl) <| q9 (qG rfl j4) <| q9 (qA rfl) <| qF (qn rfl (jB (Cn) (G) (Ca2) (commit_ok H HP p n Cn G Ca2 hn hg hok hfl us ats hsa3 (by rw [hpp, hal]) hr hgn))) ?_
    rintro t61 _ ⟨ui, ud, Ci, Cd, Cn', rfl, hsi, hsd, hn', rfl⟩
    refine q9 (qA rfl) <| q9 (qR rfl rfl) <| q9 (qR rfl rfl) <| q9 (qR rfl rfl) <| q9 (qC rfl) <| q9 (qC rfl) <| q9 (qC rfl) <| qB ?_
    rw [hpp, hflat] at hsi
    rw [← YK] at hsd
    obtain ⟨pi, ci, hvi⟩ := hsi.slice
    obtain ⟨pd, cd, hvd⟩ := hsd.slice
    refine QAt.seq <| Tr.seq <| Tr.region <| q9 (qA rfl) <| q9 (qJ rfl) <| q9 (qD rfl) <| q9 (zQ (r := v) rfl (ky hv) hv) <| q9 (qA rfl) <| qF (qn rfl (k5 (C) (Ca2) (rcommit_ok W v C Ca2 hw us ats hsa3 (by rw [hl, hal]) hr hrok hgl))) ?_
    rintro t71 _ ⟨lv, up, us2, ud2, C', Cp2, Cs2, Cd2, rfl, hw', hsp2, hss2, hsd3, rfl⟩
    refine q9 (qA rfl) <| q9 (qR rfl rfl) <| q9 (qR rfl rfl) <| q9 (qR rfl rfl) <| q9 (qR rfl rfl) <| q9 (qR rfl rfl) <| qF (qV) ?_
    rintro t10 _ ⟨b10, rfl, rfl⟩
    refine qK (qW (l := node0V) rfl rfl rfl hw'.len hw'.one) <| q9 (qC rfl) <| q9 (qC rfl) <| q9 (qC rfl) <| q9 (qC rfl) <| qB ?_
    rw [hl] at hsp2
    rw [hl, hf] at hss2
    obtain ⟨pp2, cp2, hvp2⟩ := hsp2.slice
    refine QAt.seq <| Tr.seq <| Tr.region <| q9 (qA rfl) <| q9 (w7 rfl hw'.len) <| q9 (qJ rfl) <| q9 (qD rfl) <| qK (yT (r := stV p lv md (nx + l.length) dn) rfl rfl (QR hv hw'.len) (by rw [jS hv, hw'.len]; decide) hw'.len hw'.one) ?_
    refine qB <| QAt.seq <| Tr.seq <| Tr.seq <| Tr.region <| q9 (qA rfl) <| q9 (wZ rfl rfl) <| q9 (qA rfl) <| qN (s := 83) rfl (fun hg13_2 => ?_) (fun hg13_2 => ?_)
    · exact absurd rfl hg13_2
    ·
     refine qE rfl rfl (qA rfl) <| qE rfl rfl (wZ rfl rfl) <| q9 (qL rfl rfl) <| q9 (qA rfl) <| qN (s := 87) rfl (fun hg13_6 => ?_) (fun hg13_6 => ?_)
     · exact absurd rfl hg13_6
     ·
      refine qE rfl rfl (qA rfl) <| qE rfl rfl (qA rfl) <| qE rfl rfl (qw rfl (yc (Cd) (Cd2) (ints_ok ud ud2 Cd Cd2 _ _ hsd hsd3 (by omega)))) <| qE rfl rfl (kM rfl) <| q9 (qL rfl rfl) <| q9 (qA rfl) <| TrOs.split (s := 93) rfl (fun hg13_12 => ?_) (fun hg13_12 => ?_)
      · (rw [hdead] at hg13_12; simp at hg13_12)
      ·
       refine qE rfl rfl (qA rfl) <| qE rfl rfl (qg (by rw [hvi]; rfl)) ?_
       refine qE rfl rfl (qA rfl) <| qE rfl rfl (qg (by rw [hvp2]; rfl)) ?_
       refine qE rfl rfl (wZ rfl rfl) <| q9 (qL rfl rfl) <| qB <| QAt.seq <| qI rfl (fun hc13 => ?_) (fun hc13 => ?_)
       · exact absurd rfl hc13
       ·
        refine Tr.skip <| QAt.seq <| Tr.seq <| Tr.seq <| Tr.region <| q9 (qA rfl) <| q9 (qg (by rw [hvi]; rfl)) ?_
        refine q9 (qA rfl) <| qB <| QAt.seq <| Tr.block <| wB (Γ := {pΓ : (Nat) × (Obj) // (fun (i : Nat) (oi : Obj) => i ≤ l.length ∧ MapF (Value.int .i64) kf (xS f D ((l.zip ats).take i)) oi) pΓ.1 pΓ.2}) (fun g => (fun (i : Nat) (oi : Obj) => [(0, .pointer (some ⟨x, 0, none⟩)), (3, us), (7, ui), (8, ud), (11, up), (12, us2), (101, .int .i64 l.length), (102, .int .i64 i)]) g.1.1 g.1.2) (fun g => (fun (i : Nat) (oi : Obj) => Ci :: Cd :: Cp2 :: Cs2 :: Ca2 :: StD x p lv md (nx + l.length) dn oi :: Cn' :: C' :: G :: F) g.1.1 g.1.2) (fun g => (fun (i : Nat) (oi : Obj) => l.length - i) g.1.1 g.1.2) ⟨(0, od), by dsimp only; exact ⟨by omega, hD⟩⟩ (qP _) ?_
        rintro ⟨⟨i, oi⟩, hloop⟩
        replace hloop : i ≤ l.length ∧ MapF (Value.int .i64) kf (xS f D ((l.zip ats).take i)) oi := hloop
        obtain ⟨hi2, hDi⟩ := hloop
        show Tr _ _ _ ([(0, .pointer (some ⟨x, 0, none⟩)), (3, us), (7, ui), (8, ud), (11, up), (12, us2), (101, .int .i64 l.length), (102, .int .i64 i)]) (Ci :: Cd :: Cp2 :: Cs2 :: Ca2 :: StD x p lv md (nx + l.length) dn oi :: Cn' :: C' :: G :: F) _ _
        refine Tr.seq <| Tr.region <| q9 (qv rfl rfl) <| qB <| QAt.seq <| Tr.seq <| qI rfl (fun hc16 => ?_) (fun hc16 => ?_)
        ·
         refine Tr.skip <| QAt.seq <| Tr.seq <| Tr.block <| Tr.seq <| Tr.region <| q9 (qA rfl) <| q9 (qC rfl) <| qB <| QAt.seq <| Tr.seq <| Tr.seq ?_
         obtain ⟨k, hk⟩ : ∃ k, l[i]? = some k := ⟨_, List.getElem?_eq_getElem (by omega)⟩
         have ha := hatg i (by omega)
         rcases hsi with ⟨-, h0, -⟩ | ⟨bI, capI, spI, rfl, hcsI, rfl, hcapI, hncI⟩
         · omega
         rcases hsp2 with ⟨-, h0, -⟩ | ⟨bP, capP, spP, rfl, hcsP, rfl, hcapP, hncP⟩
         · omega
         rcases hss2 with ⟨-, h0, -⟩ | ⟨bS, capS, spS, rfl, hcsS, rfl, hcapS, hncS⟩
         · omega
         rcases hsa2 with ⟨-, h0, -⟩ | ⟨bA, capA, spA, rfl, hcsA, rfl, hcapA, hncA⟩
         · omega
         refine Tr.drawn qm <| qr [(105, .pure _), (106, .pure _), (107, .pure _), (108, .pure _), (109, .pure _), (110, .pure _), (111, .pure _), (112, .pure _), (113, .pure _), (114, .pure _), (115, .pure _)] (by kernel_rfl) rfl rfl rfl wL (ParH.pure rfl (fun X => qA rfl) <| ParH.pure rfl (fun X => qA rfl) <| ParH.pure rfl (fun X => qf (j := i) (off := i * 132) rfl rfl rfl (by omega) (by simp)) <| ParH.pure rfl (fun X => qk rfl) <| ParH.pure rfl (fun X => xh (enc := fun k => yx W.num W.ver k (f k)) (j := i) (k := 0) (q := Qf W.num W.ver k) (fun _ => Zo _ _ _ _) rfl (show (bI, Obj.cells (l.flatMap (fun k => yx W.num W.ver k (f k)) ++ spI).toArray 109 (0, 0)) ∈ List.flatten _ by simp) hk rfl (by decide) rfl) <| ParH.pure rfl (fun X => qA rfl) <| ParH.pure rfl (fun X => qA rfl) <| ParH.pure rfl (fun X => qA rfl) <| ParH.pure rfl (fun X => qf (j := i) (off := i * 2) rfl rfl rfl (by omega) (by simp)) <| ParH.pure rfl (fun X => wk (j := i) zb rfl hk rfl) <| ParH.pure rfl (fun X => qw rfl (zM (StD x p lv md (nx + l.length) dn oi) (Kc x p md lv (nx + l.length) dn oi (wm W ats) C' hw' k))) <| ParH.nil rfl) ?_
         dsimp only [zG, List.drop, List.length]
         refine qq (by kernel_rfl) (JH rfl rfl) ?_
         refine qq (by kernel_rfl) (qA rfl) ?_
         refine yp (s := 117) rfl (fun hg18_12 => ?_) (fun hg18_12 => ?_)
         · (rw [hcm.1, hcm.2.1] at hg18_12; exact absurd rfl hg18_12)
         ·
          refine qr [(118, .pure _), (119, .pure _), (120, .pure _), (121, .pure _), (122, .pure _), (123, .pure _), (124, .pure _), (125, .pure _), (126, .pure _)] (by kernel_rfl) rfl rfl rfl wL (wN rfl rfl rfl (fun X => qA rfl) <| wN rfl rfl rfl (fun X => qA rfl) <| wN rfl rfl rfl (fun X => qf (j := i) (off := i * 132) rfl rfl rfl (by omega) (by simp)) <| wN rfl rfl rfl (fun X => qk rfl) <| wN rfl rfl rfl (fun X => xh (enc := fun k => yx W.num W.ver k (f k)) (j := i) (k := 4) (q := wW (f k)) (fun _ => Zo _ _ _ _) rfl (show (bI, Obj.cells (l.flatMap (fun k => yx W.num W.ver k (f k)) ++ spI).toArray 109 (0, 0)) ∈ List.flatten _ by simp) hk rfl (by decide) (xR _)) <| wN rfl rfl rfl (fun X => qA rfl) <| wN rfl rfl rfl (fun X => qA rfl) <| wN rfl rfl rfl (fun X => qf (j := i) (off := i * 128) rfl rfl rfl (by omega) (by simp)) <| wN rfl rfl rfl (fun X => wk (enc := fun k => wW (f k)) (j := i) (fun _ => by simp) rfl hk rfl) <| ParH.nil rfl) ?_
          dsimp only [zG, List.drop, List.length]
          refine kL (by kernel_rfl) rfl rfl (JH rfl rfl) ?_
          refine qq (by kernel_rfl) (qL rfl rfl) ?_
          refine qt <| QAt.seq <| qI rfl (fun hc18 => ?_) (fun hc18 => ?_)
          · exact absurd rfl hc18
          ·
           refine Tr.skip <| QAt.seq <| Tr.drawn qm <| qr [(129, .pure _), (130, .pure _), (131, .pure _), (132, .pure _), (133, .pure _), (134, .pure _), (135, .pure _), (136, .pure _), (137, .pure _), (138, .pure _), (139, .pure _), (140, .pure _), (141, .pure _)] (by kernel_rfl) rfl rfl rfl wL (ParH.pure rfl (fun X => qA rfl) <| ParH.pure rfl (fun X => qJ rfl) <| ParH.pure rfl (fun X => qD rfl) <| ParH.pure rfl (fun X => qG rfl (XS hw'.len)) <| ParH.pure rfl (fun X => qA rfl) <| ParH.pure rfl (fun X => qA rfl) <| ParH.pure rfl (fun X => qf (j := i) (off := i * 1) rfl rfl rfl (by omega) (by simp)) <| ParH.pure rfl (fun X => qG rfl (jG ha)) <| ParH.pure rfl (fun X => qA rfl) <| ParH.pure rfl (fun X => qA rfl) <| ParH.pure rfl (fun X => qf (j := i) (off := i * 132) rfl rfl rfl (by omega) (by simp)) <| ParH.pure rfl (fun X => qk rfl) <| ParH.pure rfl (fun X => xh (enc := fun k => yx W.num W.ver k (f k)) (j := i) (k := 4) (q := wW (f k)) (fun _ => Zo _ _ _ _) rfl (show (bI, Obj.cells (l.flatMap (fun k => yx W.num W.ver k (f k)) ++ spI).toArray 109 (0, 0)) ∈ List.flatten _ by simp) hk rfl (by decide) (xR _)) <| ParH.nil rfl) ?_
           dsimp only [zG, List.drop, List.length]
           refine zL (by kernel_rfl) (wu (r := md) (q := nx + i) (v := f k) rfl rfl rfl hDi) ?_
           rintro _ _ ⟨od2, hD2, rfl⟩
           refine qt <| QAt.block <| QAt.seq <| Tr.region <| q9 (qj rfl rfl (by omega)) <| q9 (qA rfl) <| qB <| qh ⟨(i + 1, od2), ?_⟩ ?_ ?_
           · (try dsimp only); exact ⟨by omega, by rw [putDs_step hk ha]; exact hD2⟩
           · (try dsimp only); omega
           · (try dsimp only); exact qP _
        ·
         refine Tr.exit <| qX <| qY <| qS <| QAt.seq <| Tr.seq <| Tr.seq ?_
         obtain rfl : i = l.length := by omega
         rw [List.take_of_length_le (by rw [List.length_zip]; omega)] at hDi
         refine Tr.region <| q9 (qA rfl) <| q9 (qg (by rw [hvd]; rfl)) ?_
         refine q9 (qA rfl) <| qB <| QAt.seq <| Tr.block <| wB (Γ := {pΓ : (Nat) × (Obj) // (fun (j : Nat) (oj : Obj) => j ≤ (srt (jx n ats)).length ∧ MapF (Value.int .i64) kf (QE (xS f D (l.zip ats)) ((srt (jx n ats)).take j)) oj) pΓ.1 pΓ.2}) (fun g => (fun (j : Nat) (oj : Obj) => [(0, .pointer (some ⟨x, 0, none⟩)), (143, ud), (144, .int .i64 (srt (jx n ats)).length), (145, .int .i64 j)]) g.1.1 g.1.2) (fun g => (fun (j : Nat) (oj : Obj) => Cd :: StD x p lv md (nx + l.length) dn oj :: Cn' :: C' :: G :: F) g.1.1 g.1.2) (fun g => (fun (j : Nat) (oj : Obj) => (srt (jx n ats)).length - j) g.1.1 g.1.2) ⟨(0, oi), by dsimp only; exact ⟨by omega, hDi⟩⟩ (qP _) ?_
         rintro ⟨⟨j, oj⟩, hloop⟩
         replace hloop : j ≤ (srt (jx n ats)).length ∧ MapF (Value.int .i64) kf (QE (xS f D (l.zip ats)) ((srt (jx n ats)).take j)) oj := hloop
         obtain ⟨hj, hDj⟩ := hloop
         show Tr _ _ _ ([(0, .pointer (some ⟨x, 0, none⟩)), (143, ud), (144, .int .i64 (srt (jx n ats)).length), (145, .int .i64 j)]) (Cd :: StD x p lv md (nx + l.length) dn oj :: Cn' :: C' :: G :: F) _ _
         refine Tr.seq <| Tr.region <| q9 (qv rfl rfl) <| qB <| QAt.seq <| Tr.seq <| qI rfl (fun hc23 => ?_) (fun hc23 => ?_)
         ·
          refine Tr.skip <| QAt.seq <| Tr.seq <| Tr.block <| Tr.seq ?_
          obtain ⟨g, hgj⟩ : ∃ g, (srt (jx n ats))[j]? = some g := ⟨_, List.getElem?_eq_getElem (by omega)⟩
          rcases hsd with ⟨-, h0, -⟩ | ⟨bD, capD, spD, rfl, hcsD, rfl, hcapD, hncD⟩
          · omega
          refine Tr.region <| q9 (qf (j := j) (off := j * 1) rfl rfl rfl (by omega) (by simp)) ?_
          refine q9 (qG rfl (jG hgj)) <| q9 (qC rfl) <| qB <| QAt.seq <| Tr.region <| q9 (qA rfl) <| q9 (qJ rfl) <| q9 (qD rfl) <| q9 (qG rfl (XS hw'.len)) <| q9 (qA rfl) <| zY (ji (r := md) (q := g) rfl rfl hDj) ?_
          rintro _ _ ⟨od3, hD3, rfl⟩
          refine qB <| QAt.block <| QAt.seq <| Tr.region <| q9 (qj rfl rfl (by omega)) <| q9 (qA rfl) <| qB <| qh ⟨(j + 1, od3), ?_⟩ ?_ ?_
          · (try dsimp only); exact ⟨by omega, by rw [delDs_step hgj]; exact hD3⟩
          · (try dsimp only); omega
          · (try dsimp only); exact qP _
         ·
          refine Tr.exit <| qX <| qY <| qS <| QAt.seq <| Tr.seq ?_
          obtain rfl : j = (srt (jx n ats)).length := by omega
          rw [List.take_length, hdead] at hDj
          refine Tr.region <| q9 (qC rfl) <| qB <| QAt.seq <| Tr.ret <| qs (StD x p lv md (nx + l.length) dn oj :: Cn' :: C' :: G :: F) (.inl rfl) rfl (qd rfl) ?_
          exact ⟨rfl, lv, C', Cn', oj, hn', hw', hDj, rfl⟩
theorem lload_ok (x p md : Nat) (v : List Value) (nx : Int) (dn : Bool) (hdn : dn = false) (od : Obj) (n n' : NS) (W : RS) (D : Int → Option Sec) (Cn C G : qM)
    (hn : NodeC p n Cn) (hw : RefC ba bl W v C) (hD : MapF (Value.int .i64) kf D od)
    (hld : zf W = [] → W.self.at_ ≠ 0 → ∀ (w0 : World) (F : Res), FnT Tryz.prog w0 68 #[.agg (wW ((D W.self.at_).getD Sec.zero)).toArray, .int .i64 W.self.at_, .func (.func 11) #[.pointer (some ⟨x, 0, none⟩)] #[]] (StD x p v md nx dn od :: G :: F)
      (fun v' L' => ∃ p' Cn', v' = .tuple #[.pointer (some ⟨p', 0, none⟩), .int .i64 0] ∧ NodeC p' n' Cn' ∧ L' = Cn' :: StD x p v md nx dn od :: G :: F)) :
    FnT Tryz.prog w0 31 #[.pointer (some ⟨x, 0, none⟩)] (StD x p v md nx dn od :: Cn :: C :: G :: F) (fun r L' => r = .bool true ∧ ∃ p' Cn', NodeC p' (if zf W = [] ∧ W.self.at_ ≠ 0 then n' else n) Cn' ∧
      L' = StD x p' v md nx dn od :: Cn' :: C :: G :: F) := by
  have hv := hw.len
  obtain ⟨l, hl⟩ : ∃ l, zf W = l := ⟨_, rfl⟩
  have hnil : l = [] ↔ ¬ (l.length : Int) > 0 := by cases l <;> simp
  refine FnT.enter (E0 := [(0, _)]) (N := 68) Tryz.func31 rfl rfl rfl rfl ?_
  refine Tr.seq <| Tr.region <| q9 (qC rfl) <| qB <| QAt.seq <| Tr.seq <| Tr.seq <| Tr.region <| q9 (qA rfl) <| q9 (qJ rfl) <| q9 (qD rfl) <| q9 (zQ (r := v) rfl (ky hv) hv) <| qF (qn rfl (wM (C) (xf W v C hw))) ?_
  rintro t9 _ ⟨Cp, hsp, rfl⟩
  rw [hl] at hsp
  obtain ⟨pp, cp, rfl⟩ := hsp.slice
  refine q9 (qg rfl) <| q9 (zd rfl rfl) <| q9 (qA rfl) <| qN (s := 12) rfl (fun hg1_7 => ?_) (fun hg1_7 => ?_)
  ·
   refine qH rfl rfl rfl <| qH rfl rfl rfl <| qH rfl rfl rfl <| qH rfl rfl rfl <| qH rfl rfl rfl <| qH rfl rfl rfl <| qH rfl rfl rfl <| q9 (qT rfl rfl) <| qB <| QAt.seq <| ww rfl <| Tr.seq <| Tr.region <| q9 (qC rfl) <| qB <| QAt.seq <| Tr.ret <| qe <| qs (StD x p v md nx dn od :: Cn :: C :: G :: F) (.inl rfl) rfl (qd rfl) <| ⟨rfl, p, Cn, ?_, rfl⟩
   rw [if_neg]
   · exact hn
   · rw [hl, hnil]; rintro ⟨h1, h2⟩; first | omega | exact h2 hc1
  ·
   refine qE rfl rfl (qA rfl) <| qE rfl rfl (qJ rfl) <| qE rfl rfl (qD rfl) <| qE rfl rfl (qk rfl) <| qE rfl rfl (qk rfl) <| qE rfl rfl (qG rfl ((YZ hv (by decide)).trans (Wl hw))) <| qE rfl rfl (wR rfl rfl) <| q9 (qL rfl rfl) <| qB <| QAt.seq <| qI rfl (fun hc1 => ?_) (fun hc1 => ?_)
   ·
    refine Tr.seq <| Tr.region <| q9 (qC rfl) <| qB <| QAt.seq <| Tr.ret <| qe <| qs (StD x p v md nx dn od :: Cn :: C :: G :: F) (.inl rfl) rfl (qd rfl) <| ⟨rfl, p, Cn, ?_, rfl⟩
    rw [if_neg]
    · exact hn
    · rw [hl, hnil]; rintro ⟨h1, h2⟩; first | omega | exact h2 hc1
   ·
    refine Tr.skip <| QAt.seq <| Tr.seq ?_
    have hp0 : zf W = [] := by rw [hl]; exact hnil.2 (by omega)
    refine Tr.drawn qm <| qr [(22, .pure _), (23, .pure _), (24, .pure _), (25, .pure _), (26, .pure _), (27, .pure _), (28, .pure _), (29, .pure _), (30, .pure _), (31, .pure _), (32, .pure _), (33, .pure _), (34, .pure _), (35, .pure _), (36, .pure _), (37, .pure _), (38, .pure _), (39, .pure _), (40, .pure _)] (by kernel_rfl) rfl rfl rfl wL (ParH.pure rfl (fun X => qA rfl) <| ParH.pure rfl (fun X => qJ rfl) <| ParH.pure rfl (fun X => qD rfl) <| ParH.pure rfl (fun X => qG rfl (XS hv)) <| ParH.pure rfl (fun X => qA rfl) <| ParH.pure rfl (fun X => qJ rfl) <| ParH.pure rfl (fun X => qD rfl) <| ParH.pure rfl (fun X => qk rfl) <| ParH.pure rfl (fun X => qk rfl) <| ParH.pure rfl (fun X => qG rfl ((YZ hv (by decide)).trans (Wl hw))) <| ParH.pure rfl (fun X => y1 (z := Sec.zero) (q := W.self.at_) rfl rfl hD) <| ParH.pure rfl (fun X => qA rfl) <| ParH.pure rfl (fun X => qJ rfl) <| ParH.pure rfl (fun X => qD rfl) <| ParH.pure rfl (fun X => qk rfl) <| ParH.pure rfl (fun X => qk rfl) <| ParH.pure rfl (fun X => qG rfl ((YZ hv (by decide)).trans (Wl hw))) <| ParH.pure rfl (fun X => qA rfl) <| ParH.pure rfl (fun X => wV rfl rfl) <| ParH.nil rfl) ?_
    dsimp only [zG, List.drop, List.length]
    refine wa (by kernel_rfl) (qn rfl (k5 (StD x p v md nx dn od) (G) (hld hp0 hc1 w0 _))) ?_
    rintro t41 _ ⟨p', Cn', rfl, hn', rfl⟩
    refine qq (by kernel_rfl) (qA rfl) ?_
    refine qr [(42, .pure _), (43, .pure _), (3, .pure _)] (by kernel_rfl) rfl rfl rfl wL (ParH.pure rfl (fun X => qR rfl rfl) <| ParH.pure rfl (fun X => qR rfl rfl) <| ParH.pure rfl (fun X => qC rfl) <| ParH.nil rfl) ?_
    dsimp only [zG, List.drop, List.length]
    refine qq (by kernel_rfl) (qC rfl) ?_
    refine qt <| QAt.seq <| Tr.seq <| Tr.seq <| Tr.region <| q9 (qA rfl) <| q9 (qJ rfl) <| q9 (qD rfl) <| q9 (qG rfl (VE hv)) <| q9 (qA rfl) <| TrOs.split (s := 48) rfl (fun hg4_4 => ?_) (fun hg4_4 => ?_)
    · (rw [hdn] at hg4_4; cases hg4_4)
    ·
     refine qH rfl rfl rfl <| qH rfl rfl rfl <| q9 (qL rfl rfl) <| q9 (qA rfl) <| qH rfl rfl rfl <| qH rfl rfl rfl <| q9 (qL rfl rfl) <| qB <| QAt.seq <| wD rfl <| Tr.skip <| QAt.seq <| Tr.seq <| Tr.seq <| Tr.region <| q9 (qA rfl) <| q9 (wZ rfl rfl) <| qB <| QAt.seq <| qI rfl (fun hc6 => ?_) (fun hc6 => ?_)
     · exact absurd rfl hc6
     ·
      refine Tr.skip <| QAt.seq <| Tr.seq <| Tr.region <| q9 (qA rfl) <| q9 (qA rfl) <| q9 (qJ rfl) <| q9 (qD rfl) <| qK (zx rfl rfl (by rw [jS hv]; decide) rfl) ?_
      refine qB ?_
      rw [stV_sp]
      refine QAt.seq <| Tr.seq <| Tr.region <| q9 (qC rfl) <| qB <| QAt.seq <| Tr.ret <| qs (StD x p' v md nx dn od :: Cn' :: C :: G :: F) (.inl rfl) rfl (qd rfl) <| ⟨rfl, p', Cn', ?_, rfl⟩
      rw [if_pos ⟨hp0, hc1⟩]; exact hn'
def InB (i : Int) : Prop := 0 ≤ i ∧ i < 1064
theorem WH {i k : Int} : wj i = (5, k) ↔ (w8 i).1 = 2 ∧ (w8 i).2.1 = k := by
  unfold wj
  by_cases h1 : (w8 i).1 = 1
  · rw [if_pos h1]; constructor
    · intro h; cases h
    · intro h; omega
  · rw [if_neg h1]
    by_cases h2 : (w8 i).1 = 2
    · rw [if_pos h2]; constructor
      · intro h; exact ⟨h2, (Prod.mk.inj h).2⟩
      · rintro ⟨-, rfl⟩; rfl
    · rw [if_neg h2]; constructor
      · intro h; cases h
      · intro h; exact absurd h.1 h2
theorem WI {i : Int} : wj i = (3, 0) ↔ (w8 i).1 = 1 := by
  unfold wj
  by_cases h1 : (w8 i).1 = 1
  · rw [if_pos h1]; simp [h1]
  · rw [if_neg h1]
    split
    · constructor
      · intro h; cases h
      · intro h; exact absurd h h1
    · constructor
      · intro h; cases h
      · intro h; exact absurd h h1
theorem JV {i : Int} : (wj i).1 = 5 ↔ (w8 i).1 = 2 := by
  unfold wj
  by_cases h1 : (w8 i).1 = 1
  · rw [if_pos h1]; constructor
    · intro h; exact absurd h (by decide)
    · intro h; omega
  · rw [if_neg h1]
    by_cases h2 : (w8 i).1 = 2
    · rw [if_pos h2]; simp [h2]
    · rw [if_neg h2]; constructor
      · intro h; exact absurd h (by decide)
      · intro h; exact absurd h h2
theorem xL (i : Int) : wj i ≠ (4, 0) := by
  unfold wj; split
  · decide
  · split
    · intro h; cases h
    · decide
theorem Kx (i : Int) : (wj i).1 ≠ 1 := by
  unfold wj; split
  · decide
  · split <;> simp
def wl (W : RS) (k : Int × Int) : Bool := if k.1 = 5 then (W.leaves k.2).stale else if k.1 = 3 then W.sg.stale else if k.1 = 4 then W.db.stale else W.self.stale
def j8 (W : RS) (k : Int × Int) : Prop := ∃ i, InB i ∧ (W.all i).has = true ∧ ((k = (4, 0) ∧ (wj i).1 = 5) ∨ wj i = k)
def frB (W : RS) (k : Int × Int) : Prop := ∃ i, InB i ∧ (W.all i).fresh = true ∧ wj i = k
def chB (W : RS) (k : Int × Int) : Prop := wl W k = true ∨ frB W k
def chL (W : RS) : Prop := ∃ j, 0 ≤ j ∧ j < 32 ∧ chB W (5, j)
def prR (W : RS) (k : Int × Int) : Prop :=
  if k.1 = 1 then (W.all k.2).fresh = true
  else if k.1 = 5 then chB W k ∧ j8 W k
  else if k.1 = 3 then chB W k ∧ j8 W k
  else if k.1 = 4 then (wl W k = true ∨ chL W) ∧ j8 W k
  else (∃ i, InB i ∧ (W.all i).fresh = true) ∨ wl W (2, 0) = true ∨ wl W (3, 0) = true ∨ wl W (4, 0) = true ∨ chL W
theorem zl {n : Nat} {j : Int} : j ∈ zR n ↔ 0 ≤ j ∧ j < n := by
  unfold zR; rw [List.mem_map]
  constructor
  · rintro ⟨a, ha, rfl⟩; have := List.mem_range.1 ha; omega
  · intro h; exact ⟨j.toNat, List.mem_range.2 (by omega), by omega⟩
theorem Q9 (n : Nat) : (zR n).take n = zR n := List.take_of_length_le (by rw [jj]; exact Nat.le_refl _)
theorem Zm (W : RS) (k : Int) (hk : 0 ≤ k) : zg W 2 k = true ↔ j8 W (5, k) := by
  unfold zg j8
  rw [List.any_eq_true]
  constructor
  · rintro ⟨i, hi, h⟩
    unfold Ws at h
    simp only [Bool.and_eq_true, decide_eq_true_eq, Bool.or_eq_true] at h
    exact ⟨i, zl.1 hi, h.1, .inr (WH.2 ⟨h.2.1, by omega⟩)⟩
  · rintro ⟨i, hi, h1, h2 | h2⟩
    · cases h2.1
    · have := WH.1 h2
      exact ⟨i, zl.2 hi, by unfold Ws; simp [h1, this.1, this.2]⟩
theorem JK (W : RS) : zg W 1 0 = true ↔ j8 W (3, 0) := by
  unfold zg j8
  rw [List.any_eq_true]
  constructor
  · rintro ⟨i, hi, h⟩
    unfold Ws at h
    simp only [Bool.and_eq_true, decide_eq_true_eq, Bool.or_eq_true] at h
    exact ⟨i, zl.1 hi, h.1, .inr (WI.2 h.2.1)⟩
  · rintro ⟨i, hi, h1, h2 | h2⟩
    · cases h2.1
    · have h3 := WI.1 h2
      refine ⟨i, zl.2 hi, ?_⟩
      unfold Ws; rw [h1, decide_eq_true h3]
      have : (w8 i).2.1 = 0 := by
        unfold w8 at h3 ⊢
        repeat' split
        all_goals first | rfl | simp_all
      simp [this]
theorem JL (W : RS) : zg W 2 (-1) = true ↔ j8 W (4, 0) := by
  unfold zg j8
  rw [List.any_eq_true]
  constructor
  · rintro ⟨i, hi, h⟩
    unfold Ws at h
    simp only [Bool.and_eq_true, decide_eq_true_eq, Bool.or_eq_true] at h
    exact ⟨i, zl.1 hi, h.1, .inl ⟨rfl, JV.2 h.2.1⟩⟩
  · rintro ⟨i, hi, h1, h2 | h2⟩
    · exact ⟨i, zl.2 hi, by unfold Ws; simp [h1, JV.1 h2.2]⟩
    · exact absurd h2 (xL i)
theorem Zl (W : RS) (k : Int) : QC W k = true ↔ chB W (5, k) := by
  unfold QC kz chB frB wl kc
  rw [Q9, Bool.or_eq_true, List.any_eq_true]
  refine or_congr (by simp) ⟨?_, ?_⟩
  · rintro ⟨i, hi, h⟩
    simp only [Bool.and_eq_true, decide_eq_true_eq] at h
    exact ⟨i, zl.1 hi, h.1.1, WH.2 ⟨h.1.2, h.2⟩⟩
  · rintro ⟨i, hi, h1, h2⟩
    have := WH.1 h2
    exact ⟨i, zl.2 hi, by simp [h1, this.1, this.2]⟩
theorem sgS_iff (W : RS) : sgS W 1064 = true ↔ chB W (3, 0) := by
  unfold sgS chB frB wl kc
  rw [Q9, Bool.or_eq_true, List.any_eq_true]
  refine or_congr (by simp) ⟨?_, ?_⟩
  · rintro ⟨i, hi, h⟩
    simp only [Bool.and_eq_true, decide_eq_true_eq] at h
    exact ⟨i, zl.1 hi, h.1, WI.2 h.2⟩
  · rintro ⟨i, hi, h1, h2⟩
    exact ⟨i, zl.2 hi, by simp [h1, WI.1 h2]⟩
theorem X7 (W : RS) : ((zR 32).take 32).any (QC W) = true ↔ chL W := by
  rw [Q9, List.any_eq_true]
  constructor
  · rintro ⟨j, hj, h⟩; exact ⟨j, (zl.1 hj).1, (zl.1 hj).2, (Zl W j).1 h⟩
  · rintro ⟨j, h0, h1, h⟩; exact ⟨j, zl.2 ⟨h0, h1⟩, (Zl W j).2 h⟩
theorem dbS_iff (W : RS) : dbS W 32 = true ↔ (wl W (4, 0) = true ∨ chL W) := by
  unfold dbS; rw [Bool.or_eq_true, X7]; exact Iff.rfl
theorem X6 (W : RS) : Qt W 32 = true ↔ prR W (2, 0) := by
  unfold Qt Xs prR
  rw [if_neg (by decide), if_neg (by decide), if_neg (by decide), if_neg (by decide), Bool.or_eq_true, X7, Bool.or_eq_true, Bool.or_eq_true, Bool.or_eq_true]
  have h : (!(y2 W 1064).isEmpty) = true ↔ ∃ i, InB i ∧ (W.all i).fresh = true := by
    unfold y2; rw [Q9]
    rw [Bool.not_eq_true', ← Bool.not_eq_true, List.isEmpty_iff, List.map_eq_nil_iff, List.filter_eq_nil_iff]
    constructor
    · intro h
      refine Classical.byContradiction fun hn => h fun i hi hf => hn ⟨i, zl.1 hi, hf⟩
    · rintro ⟨i, hi, hf⟩ h; exact h i (zl.2 hi) hf
  rw [h]
  unfold wl
  simp only [show ((2 : Int), (0 : Int)).1 = 2 from rfl, show ((3 : Int), (0 : Int)).1 = 3 from rfl, show ((4 : Int), (0 : Int)).1 = 4 from rfl]
  constructor
  · rintro ((h | h | h | h) | h)
    · exact .inl h
    · exact .inr (.inl h)
    · exact .inr (.inr (.inl h))
    · exact .inr (.inr (.inr (.inl h)))
    · exact .inr (.inr (.inr (.inr h)))
  · rintro (h | h | h | h | h)
    · exact .inl (.inl h)
    · exact .inl (.inr (.inl h))
    · exact .inl (.inr (.inr (.inl h)))
    · exact .inl (.inr (.inr (.inr h)))
    · exact .inr h
open Classical in
theorem Z4 (W : RS) : zf W = allParts.filter (fun k => decide (prR W k)) := by
  unfold zf allParts
  rw [List.filter_append, List.filter_append, show (List.range 1064).map (fun i : Nat => ((1 : Int), (i : Int))) = (zR 1064).map (fun j => ((1 : Int), j)) from by unfold zR; rw [List.map_map]; rfl,
    show (List.range 32).map (fun i : Nat => ((5 : Int), (i : Int))) = (zR 32).map (fun j => ((5 : Int), j)) from by unfold zR; rw [List.map_map]; rfl, List.filter_map, List.filter_map, List.append_assoc, List.append_assoc, List.append_assoc]
  congr 1
  · unfold y2; rw [Q9]; congr 1
    refine List.filter_congr fun i hi => ?_
    simp [prR]
  congr 1
  · unfold kH; rw [Q9]; congr 1
    refine List.filter_congr fun i hi => ?_
    rw [Bool.eq_iff_iff, Bool.and_eq_true, Zl, Zm W i (zl.1 hi).1]
    simp [prR]
  · have h3 : sgP W = if prR W (3, 0) then [(3, 0)] else [] := by
      unfold sgP
      have : (sgS W 1064 && zg W 1 0) = true ↔ prR W (3, 0) := by rw [Bool.and_eq_true, sgS_iff, JK]; simp [prR]
      by_cases h : prR W (3, 0)
      · rw [if_pos (this.2 h), if_pos h]
      · rw [if_neg (fun e => h (this.1 e)), if_neg h]
    have h4 : dbP W = if prR W (4, 0) then [(4, 0)] else [] := by
      unfold dbP
      have : (dbS W 32 && zg W 2 (-1)) = true ↔ prR W (4, 0) := by rw [Bool.and_eq_true, dbS_iff, JL]; simp [prR]
      by_cases h : prR W (4, 0)
      · rw [if_pos (this.2 h), if_pos h]
      · rw [if_neg (fun e => h (this.1 e)), if_neg h]
    have h2 : Y1 W = if prR W (2, 0) then [(2, 0)] else [] := by
      unfold Y1
      by_cases h : prR W (2, 0)
      · rw [if_pos ((X6 W).2 h), if_pos h]
      · rw [if_neg (fun e => h ((X6 W).1 e)), if_neg h]
    rw [h3, h4, h2]
    simp only [List.filter_cons, List.filter_nil, decide_eq_true_eq]
    split <;> split <;> split <;> rfl
open Classical in
theorem W7 (W : RS) (k : Int × Int) : k ∈ zf W ↔ qo k ∧ prR W k := by
  rw [Z4, List.mem_filter, ja, decide_eq_true_eq]
structure Cpl (n : NS) (W : RS) : Prop where
  num : n.num = W.num
  ver : n.ver = W.ver
  kind : n.kind = W.kind
  size : n.size = W.size
  time : n.time = W.time
  at_ : ∀ k, qo k → (n.at_ k).getD 0 = qZ W k
  data : ∀ i, InB i → n.data i = if (W.all i).fresh then some (W.all i).s else none
  stale : ∀ k, qo k → k.1 ≠ 1 → (n.stale k ≠ none ↔ wl W k = true)
  stale1 : ∀ i, n.stale (1, i) = none
  gone : n.gone.Perm W.gone
  ok : NOk n
theorem zz {i : Int} (h : InB i) : qo (1, i) := .inl ⟨rfl, h.1, h.2⟩
theorem zj {j : Int} (h : 0 ≤ j ∧ j < 32) : qo (5, j) := .inr (.inr (.inr (.inr ⟨rfl, h.1, h.2⟩)))
theorem zy : qo (2, 0) := .inr (.inl rfl)
theorem zE : qo (3, 0) := .inr (.inr (.inl rfl))
theorem zI : qo (4, 0) := .inr (.inr (.inr (.inl rfl)))
theorem qz {k : Int × Int} (h : qo k) : (∃ i, InB i ∧ k = (1, i)) ∨ k = (2, 0) ∨ k = (3, 0) ∨ k = (4, 0) ∨ ∃ j, (0 ≤ j ∧ j < 32) ∧ k = (5, j) := by
  rcases h with ⟨h1, h2, h3⟩ | h | h | h | ⟨h1, h2, h3⟩
  · exact .inl ⟨k.2, ⟨h2, h3⟩, Prod.ext h1 rfl⟩
  · exact .inr (.inl h)
  · exact .inr (.inr (.inl h))
  · exact .inr (.inr (.inr (.inl h)))
  · exact .inr (.inr (.inr (.inr ⟨k.2, ⟨h2, h3⟩, Prod.ext h1 rfl⟩)))
theorem QB {W : RS} {i : Int} : i ∈ XI W ↔ InB i ∧ (W.all i).has = true := by
  unfold XI; rw [List.mem_filter]; exact and_congr_left' zl
section
variable {n : NS} {W : RS} (h : Cpl n W)
include h
theorem Cpl.dat {i : Int} : n.data i ≠ none ↔ InB i ∧ (W.all i).fresh = true := by
  constructor
  · intro hd
    have hi := h.ok.data i hd
    refine ⟨hi, ?_⟩
    rw [h.data i hi] at hd
    by_cases hf : (W.all i).fresh = true
    · exact hf
    · rw [if_neg hf] at hd; exact absurd rfl hd
  · rintro ⟨hi, hf⟩
    rw [h.data i hi, if_pos hf]; simp
theorem Cpl.hasN_iff (hh : ∀ i, InB i → ((W.all i).has = true ↔ ((W.all i).fresh = true ∨ (W.all i).at_ ≠ 0))) {i : Int} (hi : InB i) : jk n i ↔ (W.all i).has = true := by
  unfold jk
  rw [hh i hi, h.at_ _ (zz hi), zo, h.data i hi]
  by_cases hf : (W.all i).fresh = true
  · simp [hf]
  · simp [hf]
theorem Cpl.idx (hh : ∀ i, InB i → ((W.all i).has = true ↔ ((W.all i).fresh = true ∨ (W.all i).at_ ≠ 0))) : jb n = XI W := by
  unfold jb XI
  refine List.filter_congr fun i hi => ?_
  rw [Bool.eq_iff_iff, decide_eq_true_eq]
  exact h.hasN_iff hh (zl.1 hi)
theorem Cpl.kids (hh : ∀ i, InB i → ((W.all i).has = true ↔ ((W.all i).fresh = true ∨ (W.all i).at_ ≠ 0))) (k : Int × Int) : Qs n k = true ↔ j8 W k := by
  unfold Qs j8
  rw [h.idx hh]
  by_cases e : k = (4, 0)
  · rw [if_pos e, List.any_eq_true]
    constructor
    · rintro ⟨i, hi, h5⟩
      have := QB.1 hi
      exact ⟨i, this.1, this.2, .inl ⟨e, by simpa using h5⟩⟩
    · rintro ⟨i, hi, h1, h2 | h2⟩
      · exact ⟨i, QB.2 ⟨hi, h1⟩, by simpa using h2.2⟩
      · exact absurd (h2.trans e) (xL i)
  · rw [if_neg e, List.any_eq_true]
    constructor
    · rintro ⟨i, hi, h5⟩
      have := QB.1 hi
      exact ⟨i, this.1, this.2, .inr (by simpa using h5)⟩
    · rintro ⟨i, hi, h1, h2 | h2⟩
      · exact absurd h2.1 e
      · exact ⟨i, QB.2 ⟨hi, h1⟩, by simpa using h2⟩
theorem Cpl.base1 {i : Int} : xq n (1, i) ↔ InB i ∧ (W.all i).fresh = true := by
  unfold xq
  rw [h.stale1]
  constructor
  · rintro (h1 | ⟨j, hj, h1 | h1⟩)
    · exact absurd rfl h1
    · obtain rfl : i = j := (Prod.mk.inj h1).2
      exact h.dat.1 hj
    · exact absurd (by rw [← h1]) (Kx j)
  · intro h1; exact .inr ⟨i, h.dat.2 h1, .inl rfl⟩
theorem Cpl.base {k : Int × Int} (hk : qo k) (h1 : k.1 ≠ 1) : xq n k ↔ chB W k := by
  unfold xq chB frB
  rw [h.stale k hk h1]
  refine or_congr Iff.rfl ⟨?_, ?_⟩
  · rintro ⟨i, hi, e | e⟩
    · exact absurd (by rw [e]) h1
    · have := h.dat.1 hi; exact ⟨i, this.1, this.2, e.symm⟩
  · rintro ⟨i, hi, hf, e⟩; exact ⟨i, h.dat.2 ⟨hi, hf⟩, .inr e.symm⟩
theorem Cpl.base5 : (∃ q, xq n q ∧ q.1 = 5) ↔ chL W := by
  constructor
  · rintro ⟨q, hq, h5⟩
    have hk := KD h.ok hq
    have := (h.base hk (by omega)).1 hq
    rcases qz hk with ⟨i, _, rfl⟩ | rfl | rfl | rfl | ⟨j, hj, rfl⟩
    · exact absurd h5 (by simp)
    · exact absurd h5 (by decide)
    · exact absurd h5 (by decide)
    · exact absurd h5 (by decide)
    · exact ⟨j, hj.1, hj.2, this⟩
  · rintro ⟨j, h0, h1, hc⟩
    exact ⟨(5, j), (h.base (zj ⟨h0, h1⟩) (by simp)).2 hc, rfl⟩
theorem Cpl.frFour : ¬ frB W (4, 0) := fun ⟨i, _, _, e⟩ => xL i e
theorem Cpl.all_iff {k : Int × Int} (hk : qo k) : Wx n k ∧ (k.1 ≠ 1 → k.1 ≠ 2 → j8 W k) ↔ prR W k := by
  have e24 : ((2 : Int), (0 : Int)) ≠ (4, 0) := by decide
  rcases qz hk with ⟨i, hi, rfl⟩ | rfl | rfl | rfl | ⟨j, hj, rfl⟩
  · unfold prR Wx KN
    rw [if_pos rfl, h.base1]
    constructor
    · rintro ⟨(h1 | ⟨h1, -⟩) | ⟨h1, -⟩, -⟩
      · exact h1.2
      · cases h1
      · cases h1
    · intro hf; exact ⟨.inl (.inl ⟨hi, hf⟩), fun e => absurd rfl e⟩
  · unfold prR Wx KN
    rw [if_neg (by decide), if_neg (by decide), if_neg (by decide), if_neg (by decide), h.base zy (by decide)]
    have key : (∃ q, xq n q ∨ q = ((4 : Int), (0 : Int)) ∧ ∃ q, xq n q ∧ q.1 = 5) ↔ (∃ i, InB i ∧ (W.all i).fresh = true) ∨ wl W (2, 0) = true ∨ wl W (3, 0) = true ∨ wl W (4, 0) = true ∨ chL W := by
      constructor
      · rintro ⟨q, hq | ⟨-, hq⟩⟩
        · have hqk := KD h.ok hq
          by_cases h1 : q.1 = 1
          · rcases qz hqk with ⟨i, hi, rfl⟩ | rfl | rfl | rfl | ⟨j, hj, rfl⟩
            · exact .inl ⟨i, h.base1.1 hq⟩
            all_goals exact absurd h1 (by simp)
          · rcases (h.base hqk h1).1 hq with hs | ⟨i, hi, hf, -⟩
            · rcases qz hqk with ⟨i, hi, rfl⟩ | rfl | rfl | rfl | ⟨j, hj, rfl⟩
              · exact absurd rfl h1
              · exact .inr (.inl hs)
              · exact .inr (.inr (.inl hs))
              · exact .inr (.inr (.inr (.inl hs)))
              · exact .inr (.inr (.inr (.inr ⟨j, hj.1, hj.2, .inl hs⟩)))
            · exact .inl ⟨i, hi, hf⟩
        · exact .inr (.inr (.inr (.inr (h.base5.1 hq))))
      · rintro (⟨i, hi, hf⟩ | hs | hs | hs | hc)
        · exact ⟨(1, i), .inl (h.base1.2 ⟨hi, hf⟩)⟩
        · exact ⟨(2, 0), .inl ((h.base zy (by decide)).2 (.inl hs))⟩
        · exact ⟨(3, 0), .inl ((h.base zE (by decide)).2 (.inl hs))⟩
        · exact ⟨(4, 0), .inl ((h.base zI (by decide)).2 (.inl hs))⟩
        · obtain ⟨q, hq, -⟩ := h.base5.2 hc
          exact ⟨q, .inl hq⟩
    constructor
    · rintro ⟨(h1 | ⟨h1, -⟩) | ⟨-, h1⟩, -⟩
      · rcases h1 with h1 | ⟨i, hi, hf, -⟩
        · exact .inr (.inl h1)
        · exact .inl ⟨i, hi, hf⟩
      · cases h1
      · exact key.1 h1
    · intro h1; exact ⟨.inr ⟨rfl, key.2 h1⟩, fun _ e => absurd rfl e⟩
  · unfold prR Wx KN
    rw [if_neg (by decide), if_neg (by decide), if_pos rfl, h.base zE (by decide)]
    constructor
    · rintro ⟨(h1 | ⟨h1, -⟩) | ⟨h1, -⟩, h2⟩
      · exact ⟨h1, h2 (by decide) (by decide)⟩
      · cases h1
      · cases h1
    · rintro ⟨h1, h2⟩; exact ⟨.inl (.inl h1), fun _ _ => h2⟩
  · unfold prR Wx KN
    rw [if_neg (by decide), if_neg (by decide), if_neg (by decide), if_pos rfl, h.base zI (by decide), h.base5]
    constructor
    · rintro ⟨(h1 | ⟨-, h1⟩) | ⟨h1, -⟩, h2⟩
      · rcases h1 with h1 | h1
        · exact ⟨.inl h1, h2 (by decide) (by decide)⟩
        · exact absurd h1 h.frFour
      · exact ⟨.inr h1, h2 (by decide) (by decide)⟩
      · cases h1
    · rintro ⟨h1 | h1, h2⟩
      · exact ⟨.inl (.inl (.inl h1)), fun _ _ => h2⟩
      · exact ⟨.inl (.inr ⟨rfl, h1⟩), fun _ _ => h2⟩
  · unfold prR Wx KN
    rw [if_neg (show ¬ ((5 : Int), j).1 = 1 by simp), if_pos rfl, h.base (zj hj) (by simp)]
    constructor
    · rintro ⟨(h1 | ⟨h1, -⟩) | ⟨h1, -⟩, h2⟩
      · exact ⟨h1, h2 (by simp) (by simp)⟩
      · cases h1
      · cases h1
    · rintro ⟨h1, h2⟩; exact ⟨.inl (.inl h1), fun _ _ => h2⟩
open Classical in
theorem Cpl.parts (hh : ∀ i, InB i → ((W.all i).has = true ↔ ((W.all i).fresh = true ∨ (W.all i).at_ ≠ 0))) : y3 n = zf W := by
  rw [Z4]
  unfold y3
  refine List.filter_congr fun k hk => ?_
  have hk := (ja k).1 hk
  rw [decide_eq_decide, ← h.all_iff hk]
  refine and_congr_right fun _ => ?_
  unfold Je
  rw [h.kids hh]
  constructor
  · rintro (e | e | e) h1 h2
    · exact absurd e h1
    · exact absurd e h2
    · exact e
  · intro e
    by_cases h1 : k.1 = 1
    · exact .inl h1
    · by_cases h2 : k.1 = 2
      · exact .inr (.inl h2)
      · exact .inr (.inr (e h1 h2))
end
structure Inv (W : RS) (D : Int → Option Sec) (nx : Int) : Prop where
  has : ∀ i, InB i → ((W.all i).has = true ↔ ((W.all i).fresh = true ∨ (W.all i).at_ ≠ 0))
  hole : ∀ i, InB i → (W.all i).has = false → (W.all i).s = Sec.zero
  kid : ∀ k, qo k → k.1 ≠ 1 → k.1 ≠ 2 → (qZ W k ≠ 0 ∨ wl W k = true) → j8 W k
  place : ∀ k, qo k → k.1 ≠ 1 → (k.1 ≠ 2 → j8 W k) → qZ W k ≠ 0 ∨ prR W k
  rngA : ∀ k, qo k → qZ W k ≠ 0 → 1 ≤ qZ W k ∧ qZ W k < nx
  rngG : ∀ a ∈ W.gone, 1 ≤ a ∧ a < nx
  inj : ∀ k q, qo k → qo q → qZ W k ≠ 0 → qZ W k = qZ W q → k = q
  gnd : W.gone.Nodup
  gdj : ∀ a ∈ W.gone, ∀ k, qo k → qZ W k ≠ a
  disk : ∀ k, qo k → qZ W k ≠ 0 → ¬ prR W k → D (qZ W k) = some (wd W k)
  keys : ∀ a, D a ≠ none ↔ (a ∈ W.gone ∨ ∃ k, qo k ∧ qZ W k = a ∧ a ≠ 0)
  gone : W.gone ≠ [] → W.self.stale = true
  zero : ∀ i, InB i → ∀ j : Nat, j < 128 → W.size ≤ 128 * i + j → (W.all i).s.l.getD j 0 = 0
  num : W.num = 3
  ver : W.ver = 7
  kind : 1 ≤ W.kind ∧ W.kind ≤ 2
  size : 0 ≤ W.size ∧ W.size ≤ 136192
  time : 0 ≤ W.time ∧ W.time < 4294967296
  nx : 1 ≤ nx
theorem kb {W : RS} {i : Int} : prR W (1, i) ↔ (W.all i).fresh = true := by unfold prR; rw [if_pos rfl]
theorem yD {W : RS} {i : Int} : wd W (1, i) = (W.all i).s := by unfold wd; rw [if_pos rfl]
theorem JR {n : NS} {W : RS} {D : Int → Option Sec} {nx : Int} (h : Cpl n W) (hI : Inv W D nx) {i : Int} (hi : InB i) : blk n D i = some (W.all i).s := by
  by_cases hf : (W.all i).fresh = true
  · exact X0 (by rw [h.data i hi, if_pos hf])
  · have hd : n.data i = none := by rw [h.data i hi, if_neg hf]
    have ha : (n.at_ (1, i)).getD 0 = (W.all i).at_ := by rw [h.at_ _ (zz hi), zo]
    by_cases h0 : (W.all i).at_ = 0
    · rw [X3 hd (by rw [ha]; simpa using h0)]
      have : (W.all i).has = false := by
        cases e : (W.all i).has with
        | false => rfl
        | true => rcases (hI.has i hi).1 e with h1 | h1
                  · exact absurd h1 hf
                  · exact absurd h0 h1
      rw [hI.hole i hi this]
    · rw [X1 hd (by rw [ha]; exact h0), ha]
      have := hI.disk (1, i) (zz hi) (by rw [zo]; exact h0) (by rw [kb]; exact hf)
      rw [zo, yD] at this
      exact this
def zh (A : Int → Blk) (z : Int) : Int := (A (z / 128)).s.l.getD (z % 128).toNat 0
theorem byteR_A (W : RS) (z : Int) : K9 W z = zh W.all z := rfl
def VB (A : Int → Blk) (l : List (Int × Int × Int)) : List Int := l.flatMap fun q => ((A q.1).s.l.drop q.2.1.toNat).take (q.2.2 - q.2.1).toNat
theorem slice_bytes (A : Int → Blk) {a m : Int} (h0 : 0 ≤ a) (hm : 0 ≤ m) (hr : a % 128 + m ≤ 128) :
    ((A (a / 128)).s.l.drop (a % 128).toNat).take m.toNat = (List.range m.toNat).map fun j : Nat => zh A (a + j) := by
  have hl := (A (a / 128)).s.len
  apply List.ext_getElem?
  intro j
  by_cases hj : j < m.toNat
  · have e1 : (a + j) / 128 = a / 128 := by omega
    have e2 : ((a + j) % 128).toNat = (a % 128).toNat + j := by omega
    rw [List.getElem?_take_of_lt hj, List.getElem?_drop, List.getElem?_map, List.getElem?_range hj]
    simp only [Option.map_some, zh, e1, e2, List.getD_eq_getElem?_getD]
    rw [List.getElem?_eq_getElem (by omega)]; rfl
  · rw [List.getElem?_eq_none (by simp; omega), List.getElem?_eq_none (by simp; omega)]
theorem range_split (m n : Nat) (f : Nat → Int) : (List.range (m + n)).map f = (List.range m).map f ++ (List.range n).map (fun j => f (m + j)) := by
  rw [List.range_add, List.map_append, List.map_map]; rfl
theorem catS_cut (A : Int → Blk) : ∀ (k : Nat) (a e : Int), 0 ≤ a → (e - a).toNat ≤ k → VB A (kD k a e) = (List.range (e - a).toNat).map fun j : Nat => zh A (a + j) := by
  intro k
  induction k with
  | zero => intro a e h0 hk; rw [show (e - a).toNat = 0 from by omega]; rfl
  | succ k ih =>
    intro a e h0 hk
    unfold kD
    split
    · rename_i hlt
      obtain ⟨T, hT⟩ : ∃ T, min 128 (a % 128 + e - a) = T := ⟨_, rfl⟩
      rw [hT]
      unfold VB
      rw [List.flatMap_cons]
      have h2 := ih (a + (T - a % 128)) e (by omega) (by omega)
      unfold VB at h2
      rw [h2]
      dsimp only
      rw [slice_bytes A h0 (m := T - a % 128) (by omega) (by omega), show (e - a).toNat = (T - a % 128).toNat + (e - (a + (T - a % 128))).toNat from by omega, range_split]
      congr 1
      refine List.map_congr_left fun j _ => ?_
      congr 1; omega
    · rw [show (e - a).toNat = 0 from by omega]; rfl
theorem readL_cpl {n : NS} {W : RS} {D : Int → Option Sec} {nx : Int} (h : Cpl n W) (hI : Inv W D nx) : ∀ (l : List (Int × Int × Int)), (∀ q ∈ l, InB q.1) → xg n D l = some (VB W.all l) := by
  intro l
  induction l with
  | nil => intro _; rfl
  | cons q l ih =>
    intro hq
    unfold xg
    rw [JR h hI (hq q (by simp)), ih (fun p hp => hq p (by simp [hp]))]
    rfl
theorem Xk {a m : Int} (h0 : 0 ≤ a) (he : a + m ≤ 136192) {q : Int × Int × Int} (hq : q ∈ kN a m) : InB q.1 := by
  have := QF h0 hq
  unfold InB; omega
theorem read_cpl {n : NS} {W : RS} {D : Int → Option Sec} {nx : Int} (h : Cpl n W) (hI : Inv W D nx) {a m : Int} (ha : 0 ≤ a) (hm : 0 ≤ m) :
    xg n D (kN (min a n.size) (min m (n.size - min a n.size))) = some (Qo W a m) := by
  have hs := hI.size
  rw [h.size]
  obtain ⟨b, hb⟩ : ∃ b, min a W.size = b := ⟨_, rfl⟩
  obtain ⟨c, hc⟩ : ∃ c, min m (W.size - b) = c := ⟨_, rfl⟩
  rw [hb, hc, readL_cpl h hI _ (fun q hq => Xk (by omega) (by omega) hq)]
  unfold kN
  rw [catS_cut W.all _ b (b + c) (by omega) (by omega)]
  unfold Qo
  congr 1
  rw [show (b + c - b).toNat = c.toNat from by omega]
  by_cases hle : a ≤ W.size
  · rw [show b = a from by omega, show min (W.size - a) m = c from by omega]; rfl
  · rw [show c = 0 from by omega, show (min (W.size - a) m).toNat = 0 from by omega]; rfl
theorem Jc : ∀ (l : List (Int × Int × Int)) (bs : List Int) (A : Int → Blk) (i : Int), (kQ l bs A i).at_ = (A i).at_ := by
  intro l
  induction l with
  | nil => intro bs A i; rfl
  | cons q l ih =>
    intro bs A i
    unfold kQ; rw [ih]; unfold upd; split
    · rename_i e; rw [e]
    · rfl
theorem QP : ∀ (l : List (Int × Int × Int)) (bs : List Int) (A : Int → Blk) (i : Int), ((kQ l bs A i).has = true ↔ ((A i).has = true ∨ ∃ q ∈ l, q.1 = i)) ∧ ((kQ l bs A i).fresh = true ↔ ((A i).fresh = true ∨ ∃ q ∈ l, q.1 = i)) := by
  intro l
  induction l with
  | nil => intro bs A i; simp [kQ]
  | cons q l ih =>
    intro bs A i
    unfold kQ
    have h := ih (bs.drop (q.2.2 - q.2.1).toNat) (upd A q.1 ⟨true, (A q.1).at_, true, ze (A q.1).s q.2.1.toNat (bs.take (q.2.2 - q.2.1).toNat)⟩) i
    rw [h.1, h.2]
    by_cases e : i = q.1
    · subst e; rw [wx]; simp
    · rw [wI _ _ e]; simp [Ne.symm e]
theorem wrAll_off : ∀ (l : List (Int × Int × Int)) (bs : List Int) (A : Int → Blk) (i : Int), (∀ q ∈ l, q.1 ≠ i) → kQ l bs A i = A i := by
  intro l
  induction l with
  | nil => intro bs A i _; rfl
  | cons q l ih =>
    intro bs A i h
    unfold kQ
    rw [ih _ _ _ (fun p hp => h p (by simp [hp])), wI _ _ (Ne.symm (h q (by simp)))]
theorem writeL_cpl (n : NS) (D : Int → Option Sec) : ∀ (l : List (Int × Int × Int)) (bs : List Int) (f : Int → Option Sec) (A : Int → Blk), (∀ q ∈ l, blk n D q.1 = some (A q.1).s) → l.Pairwise (fun p q => p.1 ≠ q.1) →
    (∀ i, InB i → KL f n.data i = if (A i).fresh then some (A i).s else none) →
    ∃ f', jD n D l bs f = some f' ∧ ∀ i, InB i → KL f' n.data i = if (kQ l bs A i).fresh then some (kQ l bs A i).s else none := by
  intro l
  induction l with
  | nil => intro bs f A _ _ h; exact ⟨f, rfl, h⟩
  | cons q l ih =>
    intro bs f A hq hp h
    have hp' := List.pairwise_cons.1 hp
    unfold jD kQ
    rw [hq q (by simp)]
    refine ih _ _ _ (fun p hpl => ?_) hp'.2 (fun i hi => ?_)
    · rw [wI _ _ (Ne.symm (hp'.1 p hpl))]; exact hq p (by simp [hpl])
    · unfold KL
      by_cases e : i = q.1
      · subst e; rw [wx, wx]; rfl
      · rw [wI _ _ e, wI _ _ e]; exact h i hi
theorem cut_distinct : ∀ (k : Nat) (a e : Int), 0 ≤ a → (e - a).toNat ≤ k → (kD k a e).Pairwise (fun p q => p.1 ≠ q.1) ∧ ∀ q ∈ kD k a e, a / 128 ≤ q.1 := by
  intro k
  induction k with
  | zero => intro a e _ _; exact ⟨List.Pairwise.nil, fun q hq => by cases hq⟩
  | succ k ih =>
    intro a e h0 hk
    unfold kD
    split
    · rename_i hlt
      obtain ⟨T, hT⟩ : ∃ T, min 128 (a % 128 + e - a) = T := ⟨_, rfl⟩
      rw [hT]
      have h2 := ih (a + (T - a % 128)) e (by omega) (by omega)
      refine ⟨List.pairwise_cons.2 ⟨fun q hq => ?_, h2.1⟩, fun q hq => ?_⟩
      · dsimp only
        by_cases he : T = 128
        · have := h2.2 q hq; omega
        · rw [kY (by omega)] at hq; cases hq
      · rcases List.mem_cons.1 hq with rfl | hq
        · exact Int.le_refl _
        · have := h2.2 q hq; omega
    · exact ⟨List.Pairwise.nil, fun q hq => by cases hq⟩
theorem WG {i : Int} (hi : InB i) : wj i = (2, 0) ∨ wj i = (3, 0) ∨ ∃ j, (0 ≤ j ∧ j < 32) ∧ wj i = (5, j) := by
  rcases qz (xb hi) with ⟨j, _, h⟩ | h | h | h | ⟨j, hj, h⟩
  · exact absurd (by rw [h]) (Kx i)
  · exact .inl h
  · exact .inr (.inl h)
  · exact absurd h (xL i)
  · exact .inr (.inr ⟨j, hj, h⟩)
structure SameP (W W1 : RS) : Prop where
  leaves : ∀ j, 0 ≤ j ∧ j < 32 → W1.leaves j = W.leaves j
  sg : W1.sg = W.sg
  db : W1.db = W.db
  self : W1.self = W.self
  gone : W1.gone = W.gone
  num : W1.num = W.num
  ver : W1.ver = W.ver
  kind : W1.kind = W.kind
  time : W1.time = W.time
  at_ : ∀ i, InB i → (W1.all i).at_ = (W.all i).at_
section
variable {W W1 : RS} (h : SameP W W1)
include h
theorem SameP.wh {k : Int × Int} (hk : qo k) : qZ W1 k = qZ W k := by
  rcases qz hk with ⟨i, hi, rfl⟩ | rfl | rfl | rfl | ⟨j, hj, rfl⟩
  · rw [zo, zo, h.at_ i hi]
  · unfold qZ; rw [h.self]; simp
  · unfold qZ; rw [h.sg]; simp
  · unfold qZ; rw [h.db]; simp
  · rw [kF, kF, h.leaves j hj]
theorem SameP.st {k : Int × Int} (hk : qo k) (h1 : k.1 ≠ 1) : wl W1 k = wl W k := by
  rcases qz hk with ⟨i, hi, rfl⟩ | rfl | rfl | rfl | ⟨j, hj, rfl⟩
  · exact absurd rfl h1
  · unfold wl; rw [h.self]; simp
  · unfold wl; rw [h.sg]; simp
  · unfold wl; rw [h.db]; simp
  · unfold wl; rw [if_pos rfl, if_pos rfl, h.leaves j hj]
end
theorem Zv {W W1 : RS} (h : ∀ k, qo k → qZ W1 k = qZ W k) {f : Int → Int × Int} (hf : ∀ j : Nat, j < 32 → qo (f j)) : zZ W1 f = zZ W f := by
  unfold zZ
  refine List.map_congr_left fun j hj => h _ (hf j (List.mem_range.1 hj))
theorem xC {j : Int} (hj : 0 ≤ j ∧ j < 32) : ∀ i : Nat, i < 32 → qo (z6 2 j i) := fun i hi => xm (.inr ⟨rfl, hj.1, hj.2⟩) i hi
theorem xD : ∀ i : Nat, i < 32 → qo (z6 1 0 i) := fun i hi => xm (.inl ⟨rfl, rfl⟩) i hi
theorem jr : ∀ i : Nat, i < 32 → qo ((5 : Int), (i : Int)) := fun i hi => zj ⟨by omega, by omega⟩
theorem kj {W W1 : RS} (h : ∀ k, qo k → qZ W1 k = qZ W k) {k : Int × Int} (hk : qo k) (h1 : k.1 ≠ 1) (h2 : k.1 ≠ 2) : wd W1 k = wd W k := by
  rcases qz hk with ⟨i, hi, rfl⟩ | rfl | rfl | rfl | ⟨j, hj, rfl⟩
  · exact absurd rfl h1
  · exact absurd rfl h2
  · unfold wd; simp only [show ((3 : Int), (0 : Int)).1 = 3 from rfl]; rw [Zv h xD]; simp
  · unfold wd; simp only [show ((4 : Int), (0 : Int)).1 = 4 from rfl]; rw [Zv h jr]; simp
  · unfold wd; simp only [show ((5 : Int), j).1 = 5 from rfl, show ((5 : Int), j).2 = j from rfl]; rw [Zv h (xC hj)]; simp
theorem ino_same {W W1 : RS} (h : ∀ k, qo k → qZ W1 k = qZ W k) (hn : W1.num = W.num) (hv : W1.ver = W.ver) (hk : W1.kind = W.kind) (hs : W1.size = W.size) (ht : W1.time = W.time) : kv W1 = kv W := by
  unfold kv
  have h3 := h (3, 0) zE
  have h4 := h (4, 0) zI
  rw [hn, hv, hk, hs, ht, show W1.sg.at_ = W.sg.at_ from h3, show W1.db.at_ = W.db.at_ from h4]
  congr 1
  refine List.map_congr_left fun j hj => h _ (zz ?_)
  have := List.mem_range.1 hj
  exact ⟨by omega, by omega⟩
theorem x9 {W W1 : RS} (h : ∀ k, qo k → qZ W1 k = qZ W k) (hn : W1.num = W.num) (hv : W1.ver = W.ver) (hk : W1.kind = W.kind) (hs : W1.size = W.size) (ht : W1.time = W.time) : wd W1 (2, 0) = wd W (2, 0) := by
  unfold wd; rw [ino_same h hn hv hk hs ht]; simp
theorem Jo {W W1 : RS} (hf : ∀ i, InB i → (W.all i).fresh = true → (W1.all i).fresh = true) (hh : ∀ i, InB i → (W.all i).has = true → (W1.all i).has = true)
    (hs : ∀ k, qo k → k.1 ≠ 1 → wl W k = true → wl W1 k = true) {k : Int × Int} (hk : qo k) (h : prR W k) : prR W1 k := by
  have hfr : ∀ q, frB W q → frB W1 q := fun q ⟨i, hi, h1, h2⟩ => ⟨i, hi, hf i hi h1, h2⟩
  have hkb : ∀ q, j8 W q → j8 W1 q := fun q ⟨i, hi, h1, h2⟩ => ⟨i, hi, hh i hi h1, h2⟩
  have hch : ∀ q, qo q → q.1 ≠ 1 → chB W q → chB W1 q := fun q hq h1 h2 => h2.imp (hs q hq h1) (hfr q)
  have hcl : chL W → chL W1 := fun ⟨j, h0, h1, h2⟩ => ⟨j, h0, h1, hch _ (zj ⟨h0, h1⟩) (by simp) h2⟩
  rcases qz hk with ⟨i, hi, rfl⟩ | rfl | rfl | rfl | ⟨j, hj, rfl⟩
  · rw [kb] at h ⊢; exact hf i hi h
  · unfold prR at h ⊢
    simp only [show ((2 : Int), (0 : Int)).1 = 2 from rfl] at h ⊢
    simp only [show ¬ (2 : Int) = 1 by decide, show ¬ (2 : Int) = 5 by decide, show ¬ (2 : Int) = 3 by decide, show ¬ (2 : Int) = 4 by decide, if_false] at h ⊢
    rcases h with ⟨i, hi, h⟩ | h | h | h | h
    · exact .inl ⟨i, hi, hf i hi h⟩
    · exact .inr (.inl (hs _ zy (by decide) h))
    · exact .inr (.inr (.inl (hs _ zE (by decide) h)))
    · exact .inr (.inr (.inr (.inl (hs _ zI (by decide) h))))
    · exact .inr (.inr (.inr (.inr (hcl h))))
  · unfold prR at h ⊢
    simp only [show ((3 : Int), (0 : Int)).1 = 3 from rfl] at h ⊢
    simp only [show ¬ (3 : Int) = 1 by decide, show ¬ (3 : Int) = 5 by decide, if_true, if_false] at h ⊢
    exact ⟨hch _ zE (by decide) h.1, hkb _ h.2⟩
  · unfold prR at h ⊢
    simp only [show ((4 : Int), (0 : Int)).1 = 4 from rfl] at h ⊢
    simp only [show ¬ (4 : Int) = 1 by decide, show ¬ (4 : Int) = 5 by decide, show ¬ (4 : Int) = 3 by decide, if_true, if_false] at h ⊢
    exact ⟨h.1.imp (hs _ zI (by decide)) hcl, hkb _ h.2⟩
  · unfold prR at h ⊢
    simp only [show ((5 : Int), j).1 = 5 from rfl] at h ⊢
    simp only [show ¬ (5 : Int) = 1 by decide, if_true, if_false] at h ⊢
    exact ⟨hch _ (zj hj) (by simp) h.1, hkb _ h.2⟩
theorem JC {W : RS} {i : Int} (hi : InB i) (hf : (W.all i).fresh = true) (hh : (W.all i).has = true) {k : Int × Int} (hk : qo k) (h1 : k.1 ≠ 1) (hu : k = (2, 0) ∨ (k = (4, 0) ∧ (wj i).1 = 5) ∨ wj i = k) : prR W k := by
  have h2 : prR W (2, 0) := by
    unfold prR
    simp only [show ¬ (2 : Int) = 1 by decide, show ¬ (2 : Int) = 5 by decide, show ¬ (2 : Int) = 3 by decide, show ¬ (2 : Int) = 4 by decide, if_false]
    exact .inl ⟨i, hi, hf⟩
  rcases hu with rfl | ⟨rfl, h5⟩ | rfl
  · exact h2
  · unfold prR
    simp only [show ¬ (4 : Int) = 1 by decide, show ¬ (4 : Int) = 5 by decide, show ¬ (4 : Int) = 3 by decide, if_true, if_false]
    refine ⟨.inr ?_, ⟨i, hi, hh, .inl ⟨rfl, h5⟩⟩⟩
    rcases WG hi with e | e | ⟨j, hj, e⟩
    · rw [e] at h5; exact absurd h5 (by decide)
    · rw [e] at h5; exact absurd h5 (by decide)
    · exact ⟨j, hj.1, hj.2, .inr ⟨i, hi, hf, e⟩⟩
  · rcases WG hi with e | e | ⟨j, hj, e⟩
    · rw [e]; exact h2
    · rw [e]
      unfold prR
      simp only [show ¬ (3 : Int) = 1 by decide, show ¬ (3 : Int) = 5 by decide, if_true, if_false]
      exact ⟨.inr ⟨i, hi, hf, e⟩, ⟨i, hi, hh, .inr e⟩⟩
    · rw [e]
      unfold prR
      simp only [show ¬ (5 : Int) = 1 by decide, if_true, if_false]
      exact ⟨.inr ⟨i, hi, hf, e⟩, ⟨i, hi, hh, .inr e⟩⟩
theorem Inv.touch {W W1 : RS} {D : Int → Option Sec} {nx : Int} (hI : Inv W D nx) (T : Int → Prop) (hT : ∀ i, T i → InB i) (hne : ∃ i, T i) (hp : SameP W W1)
    (hhas : ∀ i, InB i → ((W1.all i).has = true ↔ ((W.all i).has = true ∨ T i))) (hfr : ∀ i, InB i → ((W1.all i).fresh = true ↔ ((W.all i).fresh = true ∨ T i)))
    (hs : ∀ i, InB i → ¬ T i → (W1.all i).s = (W.all i).s) (hsz : 0 ≤ W1.size ∧ W1.size ≤ 136192)
    (hz : ∀ i, InB i → ∀ j : Nat, j < 128 → W1.size ≤ 128 * i + j → (W1.all i).s.l.getD j 0 = 0) : Inv W1 D nx := by
  have hw : ∀ k, qo k → qZ W1 k = qZ W k := fun k hk => hp.wh hk
  have hmono : ∀ k, qo k → prR W k → prR W1 k := fun k hk h => Jo (fun i hi h => (hfr i hi).2 (.inl h)) (fun i hi h => (hhas i hi).2 (.inl h)) (fun q hq h1 h => by rw [hp.st hq h1]; exact h) hk h
  have hkb : ∀ q, j8 W q → j8 W1 q := fun q ⟨i, hi, h1, h2⟩ => ⟨i, hi, (hhas i hi).2 (.inl h1), h2⟩
  obtain ⟨i0, h0⟩ := hne
  have hself : prR W1 (2, 0) := JC (hT i0 h0) ((hfr i0 (hT i0 h0)).2 (.inr h0)) ((hhas i0 (hT i0 h0)).2 (.inr h0)) zy (by decide) (.inl rfl)
  refine ⟨?_, ?_, ?_, ?_, ?_, ?_, ?_, ?_, ?_, ?_, ?_, ?_, hz, ?_, ?_, ?_, hsz, ?_, hI.nx⟩
  · intro i hi
    rw [hhas i hi, hfr i hi, hp.at_ i hi, hI.has i hi]
    constructor
    · rintro ((h | h) | h)
      · exact .inl (.inl h)
      · exact .inr h
      · exact .inl (.inr h)
    · rintro ((h | h) | h)
      · exact .inl (.inl h)
      · exact .inr h
      · exact .inl (.inr h)
  · intro i hi hn
    have hnT : ¬ T i := fun h => by rw [(hhas i hi).2 (.inr h)] at hn; cases hn
    rw [hs i hi hnT]
    refine hI.hole i hi ?_
    cases e : (W.all i).has with
    | false => rfl
    | true => rw [(hhas i hi).2 (.inl e)] at hn; cases hn
  · intro k hk h1 h2 h
    rw [hw k hk, hp.st hk h1] at h
    exact hkb k (hI.kid k hk h1 h2 h)
  · intro k hk h1 hkid
    rw [hw k hk]
    by_cases h2 : k.1 = 2
    · right
      rcases qz hk with ⟨i, hi, rfl⟩ | rfl | rfl | rfl | ⟨j, hj, rfl⟩
      · exact absurd rfl h1
      · exact hself
      · exact absurd h2 (by decide)
      · exact absurd h2 (by decide)
      · exact absurd h2 (by simp)
    · obtain ⟨i, hi, hh, hu⟩ := hkid h2
      rcases (hhas i hi).1 hh with ho | ht
      · exact (hI.place k hk h1 (fun _ => ⟨i, hi, ho, hu⟩)).imp_right (hmono k hk)
      · exact .inr (JC hi ((hfr i hi).2 (.inr ht)) hh hk h1 (.inr hu))
  · intro k hk h; rw [hw k hk] at h ⊢; exact hI.rngA k hk h
  · intro a ha; rw [hp.gone] at ha; exact hI.rngG a ha
  · intro k q hk hq h e; rw [hw k hk] at h e; rw [hw q hq] at e; exact hI.inj k q hk hq h e
  · rw [hp.gone]; exact hI.gnd
  · intro a ha k hk; rw [hp.gone] at ha; rw [hw k hk]; exact hI.gdj a ha k hk
  · intro k hk h hn
    rw [hw k hk] at h ⊢
    rw [hI.disk k hk h (fun hp' => hn (hmono k hk hp'))]
    congr 1
    by_cases h1 : k.1 = 1
    · rcases qz hk with ⟨i, hi, rfl⟩ | rfl | rfl | rfl | ⟨j, hj, rfl⟩
      · rw [yD, yD, hs i hi]
        intro ht; exact hn (kb.2 ((hfr i hi).2 (.inr ht)))
      · exact absurd h1 (by decide)
      · exact absurd h1 (by decide)
      · exact absurd h1 (by decide)
      · exact absurd h1 (by simp)
    · by_cases h2 : k.1 = 2
      · rcases qz hk with ⟨i, hi, rfl⟩ | rfl | rfl | rfl | ⟨j, hj, rfl⟩
        · exact absurd rfl h1
        · exact absurd hself hn
        · exact absurd h2 (by decide)
        · exact absurd h2 (by decide)
        · exact absurd h2 (by simp)
      · exact (kj hw hk h1 h2).symm
  · intro a
    rw [hI.keys a, hp.gone]
    refine or_congr Iff.rfl ⟨?_, ?_⟩
    · rintro ⟨k, hk, e, h⟩; exact ⟨k, hk, by rw [hw k hk]; exact e, h⟩
    · rintro ⟨k, hk, e, h⟩; exact ⟨k, hk, by rw [← hw k hk]; exact e, h⟩
  · rw [hp.gone, hp.self]; exact hI.gone
  · rw [hp.num]; exact hI.num
  · rw [hp.ver]; exact hI.ver
  · rw [hp.kind]; exact hI.kind
  · rw [hp.time]; exact hI.time
theorem putB_getD (l m : List Int) (k j : Nat) (h : k + m.length ≤ l.length) : (xw l k m).getD j 0 = if k ≤ j ∧ j < k + m.length then m.getD (j - k) 0 else l.getD j 0 := by
  unfold xw
  simp only [List.getD_eq_getElem?_getD]
  by_cases h1 : j < k
  · rw [if_neg (by omega), List.append_assoc, List.getElem?_append_left (by rw [List.length_take]; omega), List.getElem?_take_of_lt h1]
  · by_cases h2 : j < k + m.length
    · rw [if_pos ⟨by omega, h2⟩, List.append_assoc, List.getElem?_append_right (by rw [List.length_take]; omega), List.length_take, List.getElem?_append_left (by omega)]
      congr 2; omega
    · rw [if_neg (by omega), List.getElem?_append_right (by rw [List.length_append, List.length_take]; omega), List.getElem?_drop, List.length_append, List.length_take]
      congr 2; omega
theorem KQ (s : Sec) (m : List Int) (k j : Nat) (h : k + m.length ≤ 128) (hb : IsB m) : (ze s k m).l.getD j 0 = if k ≤ j ∧ j < k + m.length then m.getD (j - k) 0 else s.l.getD j 0 := by
  rw [jP h hb]
  exact putB_getD s.l m k j (by rw [s.len]; exact h)
theorem Yu {l : List Int} (h : IsB l) (n : Nat) : IsB (l.take n) := fun b hb => h b (List.mem_of_mem_take hb)
theorem isB_drop {l : List Int} (h : IsB l) (n : Nat) : IsB (l.drop n) := fun b hb => h b (List.mem_of_mem_drop hb)
theorem YT : ∀ (k : Nat) (a e : Int) (bs : List Int) (A : Int → Blk) (z : Int), 0 ≤ a → (e - a).toNat ≤ k → bs.length = (e - a).toNat → IsB bs → 0 ≤ z →
    zh (kQ (kD k a e) bs A) z = if a ≤ z ∧ z < e then bs.getD (z - a).toNat 0 else zh A z := by
  intro k
  induction k with
  | zero => intro a e bs A z h0 hk hl hb hz; rw [if_neg (by omega)]; rfl
  | succ k ih =>
    intro a e bs A z h0 hk hl hb hz
    unfold kD
    split
    · rename_i hlt
      obtain ⟨T, hT⟩ : ∃ T, min 128 (a % 128 + e - a) = T := ⟨_, rfl⟩
      rw [hT]
      unfold kQ
      dsimp only
      obtain ⟨m, hm⟩ : ∃ m : Nat, (T - a % 128).toNat = m := ⟨_, rfl⟩
      rw [hm]
      have htl : (bs.take m).length = m := by rw [List.length_take]; omega
      rw [ih (a + (T - a % 128)) e (bs.drop m) _ z (by omega) (by omega) (by rw [List.length_drop]; omega) (isB_drop hb m) hz]
      by_cases h1 : a + (T - a % 128) ≤ z ∧ z < e
      · rw [if_pos h1, if_pos (by omega)]
        simp only [List.getD_eq_getElem?_getD, List.getElem?_drop]
        congr 2; omega
      · rw [if_neg h1]
        unfold zh
        by_cases hq : z / 128 = a / 128
        · rw [hq, wx]
          dsimp only
          rw [KQ _ _ _ _ (by rw [htl]; omega) (Yu hb m), htl]
          by_cases h2 : a ≤ z ∧ z < e
          · rw [if_pos (by omega), if_pos h2]
            simp only [List.getD_eq_getElem?_getD]
            rw [List.getElem?_take_of_lt (by omega)]
            congr 2; omega
          · rw [if_neg (by omega), if_neg h2]
        · rw [wI _ _ hq, if_neg (by omega)]
    · rw [if_neg (by omega)]; rfl
theorem cut_has : ∀ (k : Nat) (a e : Int), 0 ≤ a → a < e → 0 < k → ∃ q ∈ kD k a e, q.1 = a / 128 := by
  intro k a e h0 h1 hk
  obtain ⟨k, rfl⟩ : ∃ j, k = j + 1 := ⟨k - 1, by omega⟩
  unfold kD; rw [if_pos h1]
  exact ⟨_, List.mem_cons_self, rfl⟩
theorem Jf {A : Int → Blk} {i : Int} {j : Nat} (hj : j < 128) : (A i).s.l.getD j 0 = zh A (128 * i + j) := by
  unfold zh
  rw [show (128 * i + j) / 128 = i from by omega, show ((128 * i + j) % 128).toNat = j from by omega]
theorem writeL_sup (n : NS) (D : Int → Option Sec) : ∀ (l : List (Int × Int × Int)) (bs : List Int) (f f' : Int → Option Sec), jD n D l bs f = some f' → ∀ i, f' i ≠ none → f i ≠ none ∨ ∃ q ∈ l, q.1 = i := by
  intro l
  induction l with
  | nil => intro bs f f' h i hi; cases h; exact .inl hi
  | cons q l ih =>
    intro bs f f' h i hi
    unfold jD at h
    split at h
    · cases h
    · rcases ih _ _ _ h i hi with h1 | ⟨p, hp, e⟩
      · by_cases e : i = q.1
        · exact .inr ⟨q, by simp, e.symm⟩
        · rw [wI _ _ e] at h1; exact .inl h1
      · exact .inr ⟨p, by simp [hp], e⟩
theorem ZZ {n : NS} {W : RS} {D : Int → Option Sec} {nx : Int} (h : Cpl n W) (hI : Inv W D nx) (a : Int) (bs : List Int) (hb : IsB bs) :
    (jC n D a bs).1 = (yM W a bs).1 ∧ Cpl (jC n D a bs).2 (yM W a bs).2 ∧ Inv (yM W a bs).2 D nx := by
  unfold jC yM
  by_cases hc : kE a bs.length ≠ 0 ∨ bs.length = 0
  · rw [if_pos hc, if_pos hc]; exact ⟨rfl, h, hI⟩
  · rw [if_neg hc, if_neg hc]
    have hE : kE a bs.length = 0 := Classical.byContradiction fun e => hc (.inl e)
    have hL : bs.length ≠ 0 := fun e => hc (.inr e)
    have hrng : 0 ≤ a ∧ a + bs.length ≤ 136192 := by
      unfold kE at hE
      split at hE
      · cases hE
      · split at hE
        · cases hE
        · omega
    have hq : ∀ q ∈ kN a bs.length, InB q.1 := fun q hq => Xk hrng.1 hrng.2 hq
    have hd := cut_distinct (bs.length : Int).toNat a (a + bs.length) hrng.1 (by omega)
    obtain ⟨f', hf', hag⟩ := writeL_cpl n D (kN a bs.length) bs (fun _ => none) W.all (fun q hqq => JR h hI (hq q hqq)) hd.1 (fun i hi => h.data i hi)
    rw [hf']
    have hby : ∀ z, 0 ≤ z → zh (kQ (kN a bs.length) bs W.all) z = if a ≤ z ∧ z < a + bs.length then bs.getD (z - a).toNat 0 else zh W.all z := fun z hz =>
      YT _ a (a + bs.length) bs W.all z hrng.1 (by omega) (by omega) hb hz
    refine ⟨rfl, ⟨h.num, h.ver, h.kind, by rw [show n.size = W.size from h.size], h.time, fun k hk => ?_, hag, h.stale, h.stale1, h.gone, ⟨fun i hi => ?_, h.ok.at1, h.ok.at2, h.ok.stale⟩⟩, ?_⟩
    · rw [show ({ n with data := KL f' n.data, size := max W.size (a + bs.length) } : NS).at_ = n.at_ from rfl, h.at_ k hk]
      rcases qz hk with ⟨i, hi, rfl⟩ | rfl | rfl | rfl | ⟨j, hj, rfl⟩
      · rw [zo, zo]; exact (Jc _ _ _ _).symm
      all_goals rfl
    · have hi' : KL f' n.data i ≠ none := hi
      unfold KL at hi'
      cases e : f' i with
      | some s =>
        rcases writeL_sup n D _ _ _ _ hf' i (by rw [e]; simp) with h1 | ⟨q, hqq, rfl⟩
        · exact absurd rfl h1
        · exact hq q hqq
      | none => rw [e] at hi'; exact h.ok.data i hi'
    · have hs := hI.size
      refine hI.touch (fun i => ∃ q ∈ kN a bs.length, q.1 = i) (fun i ⟨q, hqq, e⟩ => e ▸ hq q hqq) ?_ ⟨fun _ _ => rfl, rfl, rfl, rfl, rfl, rfl, rfl, rfl, rfl, fun i _ => Jc _ _ _ _⟩ (fun i _ => (QP _ _ _ i).1) (fun i _ => (QP _ _ _ i).2) (fun i _ hn => ?_) (by dsimp only; omega) ?_
      · obtain ⟨q, hqq, e⟩ := cut_has (bs.length : Int).toNat a (a + bs.length) hrng.1 (by omega) (by omega)
        exact ⟨_, q, hqq, e⟩
      · dsimp only; rw [wrAll_off _ _ _ i (fun q hqq e => hn ⟨q, hqq, e⟩)]
      · intro i hi j hj hle
        dsimp only at hle ⊢
        have := hi.1
        rw [Jf hj, hby _ (by omega), if_neg (by omega), ← Jf hj]
        exact hI.zero i hi j hj (by omega)
theorem Js {W W1 : RS} (h : ∀ i, InB i → (W1.all i).has = (W.all i).has) (k : Int × Int) : j8 W1 k ↔ j8 W k := by
  unfold j8
  constructor
  · rintro ⟨i, hi, h1, h2⟩; exact ⟨i, hi, by rw [← h i hi]; exact h1, h2⟩
  · rintro ⟨i, hi, h1, h2⟩; exact ⟨i, hi, by rw [h i hi]; exact h1, h2⟩
theorem Z3 {W : RS} (h : W.self.stale = true) : prR W (2, 0) := by
  unfold prR
  simp only [show ¬ (2 : Int) = 1 by decide, show ¬ (2 : Int) = 5 by decide, show ¬ (2 : Int) = 3 by decide, show ¬ (2 : Int) = 4 by decide, if_false]
  exact .inr (.inl h)
theorem Inv.mark {W W1 : RS} {D : Int → Option Sec} {nx : Int} (hI : Inv W D nx) (hall : ∀ i, InB i → W1.all i = W.all i) (hw : ∀ k, qo k → qZ W1 k = qZ W k)
    (hst : ∀ k, qo k → k.1 ≠ 1 → wl W k = true → wl W1 k = true) (hnew : ∀ k, qo k → k.1 ≠ 1 → k.1 ≠ 2 → wl W1 k = true → wl W k = true ∨ j8 W k)
    (hg : W1.gone = W.gone) (hn : W1.num = W.num) (hv : W1.ver = W.ver) (hkd : W1.kind = W.kind) (hts : (W1.size = W.size ∧ W1.time = W.time) ∨ W1.self.stale = true)
    (hsz : 0 ≤ W1.size ∧ W1.size ≤ 136192) (ht : 0 ≤ W1.time ∧ W1.time < 4294967296) (hz : ∀ i, InB i → ∀ j : Nat, j < 128 → W1.size ≤ 128 * i + j → (W.all i).s.l.getD j 0 = 0) : Inv W1 D nx := by
  have hkb := Js (W := W) (W1 := W1) (fun i hi => by rw [hall i hi])
  have hmono : ∀ k, qo k → prR W k → prR W1 k := fun k hk h => Jo (fun i hi h => by rw [hall i hi]; exact h) (fun i hi h => by rw [hall i hi]; exact h) hst hk h
  refine ⟨?_, ?_, ?_, ?_, ?_, ?_, ?_, ?_, ?_, ?_, ?_, ?_, ?_, ?_, ?_, ?_, hsz, ht, hI.nx⟩
  · intro i hi; rw [hall i hi]; exact hI.has i hi
  · intro i hi; rw [hall i hi]; exact hI.hole i hi
  · intro k hk h1 h2 h
    rw [hkb]
    rw [hw k hk] at h
    rcases h with h | h
    · exact hI.kid k hk h1 h2 (.inl h)
    · exact (hnew k hk h1 h2 h).elim (fun e => hI.kid k hk h1 h2 (.inr e)) id
  · intro k hk h1 h
    rw [hw k hk]
    exact (hI.place k hk h1 (fun h2 => (hkb k).1 (h h2))).imp_right (hmono k hk)
  · intro k hk h; rw [hw k hk] at h ⊢; exact hI.rngA k hk h
  · intro a ha; rw [hg] at ha; exact hI.rngG a ha
  · intro k q hk hq h e; rw [hw k hk] at h e; rw [hw q hq] at e; exact hI.inj k q hk hq h e
  · rw [hg]; exact hI.gnd
  · intro a ha k hk; rw [hg] at ha; rw [hw k hk]; exact hI.gdj a ha k hk
  · intro k hk h hp
    rw [hw k hk] at h ⊢
    rw [hI.disk k hk h (fun e => hp (hmono k hk e))]
    congr 1
    rcases qz hk with ⟨i, hi, rfl⟩ | rfl | rfl | rfl | ⟨j, hj, rfl⟩
    · rw [yD, yD, hall i hi]
    · rcases hts with ⟨e1, e2⟩ | e
      · exact (x9 hw hn hv hkd e1 e2).symm
      · exact absurd (Z3 e) hp
    · exact (kj hw zE (by decide) (by decide)).symm
    · exact (kj hw zI (by decide) (by decide)).symm
    · exact (kj hw (zj hj) (by simp) (by simp)).symm
  · intro a
    rw [hI.keys a, hg]
    refine or_congr Iff.rfl ⟨?_, ?_⟩
    · rintro ⟨k, hk, e, h⟩; exact ⟨k, hk, by rw [hw k hk]; exact e, h⟩
    · rintro ⟨k, hk, e, h⟩; exact ⟨k, hk, by rw [← hw k hk]; exact e, h⟩
  · intro h; rw [hg] at h; exact hst (2, 0) zy (by decide) (hI.gone h)
  · intro i hi; rw [hall i hi]; exact hz i hi
  · rw [hn]; exact hI.num
  · rw [hv]; exact hI.ver
  · rw [hkd]; exact hI.kind
theorem Cpl.live {n : NS} {W : RS} (h : Cpl n W) {D : Int → Option Sec} {nx : Int} (hI : Inv W D nx) {k : Int × Int} (hk : qo k) (a : Int) : W9 n k a ↔ jv W k a := by
  unfold W9 jv
  rw [show atN n k = (n.at_ k).getD 0 from rfl, h.at_ k hk, h.parts hI.has]
theorem Yo (W : RS) (k : Int × Int) {q : Int × Int} (hk : qo k) : qZ (y4 W k) q = qZ W q := by
  rcases qz hk with ⟨i, hi, rfl⟩ | rfl | rfl | rfl | ⟨j, hj, rfl⟩
  · unfold y4; rw [if_pos rfl]; unfold qZ; dsimp only
    split
    · unfold upd; split
      · rename_i e; rw [e]
      · rfl
    · rfl
  · rfl
  · rfl
  · rfl
  · unfold y4; rw [if_neg (by simp), if_pos rfl]; unfold qZ; dsimp only
    split
    · rfl
    · split
      · unfold upd; split
        · rename_i e; rw [e]
        · rfl
      · rfl
theorem Yp (W : RS) {k : Int × Int} (hk : qo k) (h1 : k.1 ≠ 1) {q : Int × Int} (hq : qo q) (hq1 : q.1 ≠ 1) : wl (y4 W k) q = if q = k then true else wl W q := by
  rcases qz hk with ⟨i, hi, rfl⟩ | rfl | rfl | rfl | ⟨j, hj, rfl⟩
  · exact absurd rfl h1
  · rcases qz hq with ⟨i, hi, rfl⟩ | rfl | rfl | rfl | ⟨j, hj, rfl⟩
    · exact absurd rfl hq1
    · rfl
    · rfl
    · rfl
    · rw [if_neg (by simp)]; rfl
  · rcases qz hq with ⟨i, hi, rfl⟩ | rfl | rfl | rfl | ⟨j, hj, rfl⟩
    · exact absurd rfl hq1
    · rfl
    · rfl
    · rfl
    · rw [if_neg (by simp)]; rfl
  · rcases qz hq with ⟨i, hi, rfl⟩ | rfl | rfl | rfl | ⟨j, hj, rfl⟩
    · exact absurd rfl hq1
    · rfl
    · rfl
    · rfl
    · rw [if_neg (by simp)]; rfl
  · unfold y4; rw [if_neg (by simp), if_pos rfl]
    rcases qz hq with ⟨i, hi, rfl⟩ | rfl | rfl | rfl | ⟨j', hj', rfl⟩
    · exact absurd rfl hq1
    · rw [if_neg (by simp)]; rfl
    · rw [if_neg (by simp)]; rfl
    · rw [if_neg (by simp)]; rfl
    · unfold wl; rw [if_pos rfl, if_pos rfl]; dsimp only; unfold upd
      by_cases e : j' = j
      · rw [if_pos e, if_pos (by rw [e])]
      · rw [if_neg e, if_neg (by simpa using e)]
theorem Cpl.setStale {n : NS} {W W1 : RS} (h : Cpl n W) {k : Int × Int} (hk : qo k) (h1 : k.1 ≠ 1) (hall : ∀ i, InB i → W1.all i = W.all i) (hw : ∀ q, qo q → qZ W1 q = qZ W q)
    (hst : ∀ q, qo q → q.1 ≠ 1 → wl W1 q = if q = k then true else wl W q) (hg : W1.gone = W.gone) (hn : W1.num = W.num) (hv : W1.ver = W.ver) (hkd : W1.kind = W.kind) (n1 : NS)
    (hn1 : n1 = { setStale n k with size := W1.size, time := W1.time }) : Cpl n1 W1 := by
  subst hn1
  refine ⟨h.num.trans hn.symm, h.ver.trans hv.symm, h.kind.trans hkd.symm, rfl, rfl, fun q hq => (h.at_ q hq).trans (hw q hq).symm, fun i hi => by rw [hall i hi]; exact h.data i hi, fun q hq hq1 => ?_, fun i => ?_, by rw [hg]; exact h.gone, ⟨h.ok.data, h.ok.at1, h.ok.at2, (h.ok.setStale hk).stale⟩⟩
  · rw [hst q hq hq1]
    show upd n.stale k (some 1) q ≠ none ↔ _
    unfold upd; split
    · simp
    · exact h.stale q hq hq1
  · show upd n.stale k (some 1) (1, i) = none
    rw [wI _ _ (fun e => h1 (by rw [← e]))]; exact h.stale1 i
theorem move_cpl {n : NS} {W : RS} {D : Int → Option Sec} {nx : Int} (h : Cpl n W) (hI : Inv W D nx) {k : Int × Int} (hk : qo k) (a : Int) :
    (xi n k a D).1 = (decide (jv W k a), 0) ∧ Cpl (xi n k a D).2 (if jv W k a then y4 W k else W) ∧ Inv (if jv W k a then y4 W k else W) D nx := by
  unfold xi
  by_cases hl : jv W k a
  · rw [if_pos ((h.live hI hk a).2 hl), if_pos hl, decide_eq_true hl]
    have hl' := hl
    obtain ⟨ha, hwa, hnp⟩ := hl'
    have hnp' : ¬ prR W k := fun e => hnp ((W7 W k).2 ⟨hk, e⟩)
    by_cases h1 : k.1 = 1
    · rw [if_pos h1]
      obtain ⟨i, hi, rfl⟩ : ∃ i, InB i ∧ k = (1, i) := by
        rcases qz hk with e | rfl | rfl | rfl | ⟨j, hj, rfl⟩
        · exact e
        · exact absurd h1 (by decide)
        · exact absurd h1 (by decide)
        · exact absurd h1 (by decide)
        · exact absurd h1 (by simp)
      have hd := hI.disk (1, i) hk (by rw [hwa]; exact ha) hnp'
      rw [hwa, yD] at hd
      rw [hd]
      have hhas : (W.all i).has = true := (hI.has i hi).2 (.inr (by rw [zo] at hwa; rw [hwa]; exact ha))
      have hmv : y4 W (1, i) = { W with all := upd W.all i { W.all i with fresh := true } } := by unfold y4; rw [if_pos rfl]
      refine ⟨rfl, ?_, ?_⟩
      · rw [hmv]
        refine ⟨h.num, h.ver, h.kind, h.size, h.time, fun q hq => (h.at_ q hq).trans (by rw [← hmv]; exact (Yo W (1, i) hk).symm), fun j hj => ?_, h.stale, h.stale1, h.gone, ⟨fun j hj => ?_, h.ok.at1, h.ok.at2, h.ok.stale⟩⟩
        · show upd n.data i (some (W.all i).s) j = _
          dsimp only
          by_cases e : j = i
          · subst e; simp only [wx]; rfl
          · simp only [wI _ _ e]; exact h.data j hj
        · by_cases e : j = i
          · subst e; exact hi
          · exact h.ok.data j (by have hj' : upd n.data i (some (W.all i).s) j ≠ none := hj; rwa [wI _ _ e] at hj')
      · rw [hmv]
        refine hI.touch (fun j => j = i) (fun j e => e ▸ hi) ⟨i, rfl⟩ ⟨fun _ _ => rfl, rfl, rfl, rfl, rfl, rfl, rfl, rfl, rfl, fun j hj => ?_⟩ (fun j hj => ?_) (fun j hj => ?_) (fun j hj hn => ?_) hI.size (fun j hj m hm hle => ?_)
        · dsimp only; unfold upd; split
          · rename_i e; rw [e]
          · rfl
        · dsimp only
          by_cases e : j = i
          · subst e; rw [wx]; simp [hhas]
          · rw [wI _ _ e]; simp [e]
        · dsimp only
          by_cases e : j = i
          · subst e; rw [wx]; simp
          · rw [wI _ _ e]; simp [e]
        · dsimp only; rw [wI _ _ hn]
        · dsimp only at hle ⊢
          by_cases e : j = i
          · subst e; rw [wx]; exact hI.zero j hj m hm hle
          · rw [wI _ _ e]; exact hI.zero j hj m hm hle
    · rw [if_neg h1]
      have hsame : (y4 W k).all = W.all ∧ (y4 W k).gone = W.gone ∧ (y4 W k).num = W.num ∧ (y4 W k).ver = W.ver ∧ (y4 W k).kind = W.kind ∧ (y4 W k).size = W.size ∧ (y4 W k).time = W.time := by
        unfold y4; rw [if_neg h1]
        split
        · exact ⟨rfl, rfl, rfl, rfl, rfl, rfl, rfl⟩
        · split
          · exact ⟨rfl, rfl, rfl, rfl, rfl, rfl, rfl⟩
          · split <;> exact ⟨rfl, rfl, rfl, rfl, rfl, rfl, rfl⟩
      obtain ⟨e1, e2, e3, e4, e5, e6, e7⟩ := hsame
      refine ⟨rfl, ?_, ?_⟩
      · exact h.setStale hk h1 (fun i _ => by rw [e1]) (fun q _ => Yo W k hk) (fun q hq hq1 => Yp W hk h1 hq hq1) e2 e3 e4 e5 _ (by rw [e6, e7, ← h.size, ← h.time]; rfl)
      · refine hI.mark (fun i _ => by rw [e1]) (fun q _ => Yo W k hk) (fun q hq hq1 hs => ?_) (fun q hq hq1 hq2 hs => ?_) e2 e3 e4 e5 (.inl ⟨e6, e7⟩) (by rw [e6]; exact hI.size) (by rw [e7]; exact hI.time) (fun i hi j hj hle => hI.zero i hi j hj (by rw [e6] at hle; exact hle))
        · rw [Yp W hk h1 hq hq1, hs]; simp
        · rw [Yp W hk h1 hq hq1] at hs
          by_cases e : q = k
          · subst e; exact .inr (hI.kid q hq hq1 hq2 (.inl (by rw [hwa]; exact ha)))
          · rw [if_neg e] at hs; exact .inl hs
  · rw [if_neg (fun e => hl ((h.live hI hk a).1 e)), if_neg hl, decide_eq_false hl]
    exact ⟨rfl, h, hI⟩
theorem Z0 {n : NS} {W : RS} {D : Int → Option Sec} {nx : Int} (h : Cpl n W) (hI : Inv W D nx) (t : Int) (ht : 0 ≤ t ∧ t < 4294967296) : Cpl (ki n t) (kS W t) ∧ Inv (kS W t) D nx := by
  unfold ki kS
  rw [h.time]
  by_cases e : W.time ≠ t
  · rw [if_pos e, if_pos e]
    have hst : ∀ q, qo q → q.1 ≠ 1 → wl { W with time := t, self := ⟨W.self.at_, true⟩ } q = if q = (2, 0) then true else wl W q := by
      intro q hq hq1
      rcases qz hq with ⟨i, hi, rfl⟩ | rfl | rfl | rfl | ⟨j, hj, rfl⟩
      · exact absurd rfl hq1
      · rfl
      · rfl
      · rfl
      · rw [if_neg (by simp)]; rfl
    refine ⟨h.setStale (W1 := { W with time := t, self := ⟨W.self.at_, true⟩ }) zy (by decide) (fun _ _ => rfl) (fun _ _ => rfl) hst rfl rfl rfl rfl _ (by dsimp only; rw [show W.size = n.size from h.size.symm]; rfl), ?_⟩
    refine hI.mark (fun _ _ => rfl) (fun _ _ => rfl) (fun q hq hq1 hs => by rw [hst q hq hq1, hs]; simp) (fun q hq hq1 hq2 hs => ?_) rfl rfl rfl rfl (.inr rfl) hI.size ht hI.zero
    rw [hst q hq hq1, if_neg (fun e => hq2 (by rw [e]))] at hs
    exact .inl hs
  · rw [if_neg e, if_neg e]; exact ⟨h, hI⟩
theorem YL (W : RS) {k : Int × Int} (hk : qo k) (a : Int) {q : Int × Int} (hq : qo q) : qZ (yu W k a) q = if q = k then a else qZ W q := by
  rcases qz hk with ⟨i, hi, rfl⟩ | rfl | rfl | rfl | ⟨j, hj, rfl⟩
  · unfold yu; rw [if_pos rfl]
    rcases qz hq with ⟨i', hi', rfl⟩ | rfl | rfl | rfl | ⟨j, hj, rfl⟩
    · rw [zo, zo]; dsimp only
      by_cases e : i' = i
      · subst e; rw [wx, if_pos rfl]
      · rw [wI _ _ e, if_neg (by simpa using e)]
    · rw [if_neg (by simp)]; rfl
    · rw [if_neg (by simp)]; rfl
    · rw [if_neg (by simp)]; rfl
    · rw [if_neg (by simp)]; rfl
  · rcases qz hq with ⟨i', hi', rfl⟩ | rfl | rfl | rfl | ⟨j, hj, rfl⟩
    · rw [if_neg (by simp)]; rfl
    · rfl
    · rfl
    · rfl
    · rw [if_neg (by simp)]; rfl
  · rcases qz hq with ⟨i', hi', rfl⟩ | rfl | rfl | rfl | ⟨j, hj, rfl⟩
    · rw [if_neg (by simp)]; rfl
    · rfl
    · rfl
    · rfl
    · rw [if_neg (by simp)]; rfl
  · rcases qz hq with ⟨i', hi', rfl⟩ | rfl | rfl | rfl | ⟨j, hj, rfl⟩
    · rw [if_neg (by simp)]; rfl
    · rfl
    · rfl
    · rfl
    · rw [if_neg (by simp)]; rfl
  · unfold yu; rw [if_neg (by simp), if_pos rfl]
    rcases qz hq with ⟨i', hi', rfl⟩ | rfl | rfl | rfl | ⟨j', hj', rfl⟩
    · rw [if_neg (by simp)]; rfl
    · rw [if_neg (by simp)]; rfl
    · rw [if_neg (by simp)]; rfl
    · rw [if_neg (by simp)]; rfl
    · rw [kF, kF]; dsimp only
      by_cases e : j' = j
      · subst e; rw [wx, if_pos rfl]
      · rw [wI _ _ e, if_neg (by simpa using e)]
theorem putR_blk (W : RS) (k : Int × Int) (a : Int) (i : Int) : ((yu W k a).all i).has = (W.all i).has ∧ ((yu W k a).all i).s = (W.all i).s ∧ ((yu W k a).all i).fresh = (if k = (1, i) then false else (W.all i).fresh) := by
  unfold yu
  by_cases h1 : k.1 = 1
  · rw [if_pos h1]; dsimp only
    by_cases e : i = k.2
    · have ek : k = (1, i) := by rw [e]; exact Prod.ext h1 rfl
      rw [if_pos ek, e, wx]; exact ⟨rfl, rfl, rfl⟩
    · rw [wI _ _ e, if_neg (fun h => e (by rw [h]))]; exact ⟨rfl, rfl, rfl⟩
  · have hne : k ≠ (1, i) := fun h => h1 (by rw [h])
    rw [if_neg h1, if_neg hne]
    split
    · exact ⟨rfl, rfl, rfl⟩
    · split
      · exact ⟨rfl, rfl, rfl⟩
      · split <;> exact ⟨rfl, rfl, rfl⟩
theorem cm_cpl : ∀ (l : List (Int × Int)) (bs : List Int) (f : Int × Int → Option Int) (ds : List Int) (X : RS) (es : List Int), (∀ k ∈ l, qo k) → (∀ k, qo k → (f k).getD 0 = qZ X k) → ds.Perm es →
    (∀ k, qo k → ((yz l bs (f, ds)).1 k).getD 0 = qZ (ws l bs (X, es)).1 k) ∧ (yz l bs (f, ds)).2.Perm (ws l bs (X, es)).2 := by
  intro l
  induction l with
  | nil => intro bs f ds X es _ h hp; rw [YB, kx]; exact ⟨h, hp⟩
  | cons k l ih =>
    intro bs f ds X es hl h hp
    cases bs with
    | nil => exact ⟨h, hp⟩
    | cons a bs =>
      rw [yz, ws]
      have hk := hl k (by simp)
      refine ih bs _ _ _ _ (fun q hq => hl q (by simp [hq])) (fun q hq => ?_) ?_
      · dsimp only
        rw [YL X hk a hq]; unfold upd
        by_cases e : q = k
        · rw [if_pos e, if_pos e]; rfl
        · rw [if_neg e, if_neg e]; exact h q hq
      · dsimp only
        rw [h k hk]
        split
        · exact hp.append_right _
        · exact hp
theorem cmR_in : ∀ (l : List (Int × Int)) (bs : List Int) (s : RS × List Int), (∀ k ∈ l, qo k) → l.Nodup → l.length = bs.length →
    (∀ (i : Nat) k a, l[i]? = some k → bs[i]? = some a → qZ (ws l bs s).1 k = a) ∧ (∀ k, qo k → k ∉ l → qZ (ws l bs s).1 k = qZ s.1 k) ∧
    (ws l bs s).2 = s.2 ++ nz (l.map (qZ s.1)) := by
  intro l
  induction l with
  | nil =>
    intro bs s _ _ _
    rw [kx]
    exact ⟨fun i k a h => by simp at h, fun k _ _ => rfl, by simp [nz]⟩
  | cons k l ih =>
    intro bs s hl hn hlen
    cases bs with
    | nil => simp at hlen
    | cons a bs =>
      rw [ws]
      have hk := hl k (by simp)
      have hn' := List.nodup_cons.1 hn
      obtain ⟨h1, h2, h3⟩ := ih bs (yu s.1 k a, if qZ s.1 k ≠ 0 then s.2 ++ [qZ s.1 k] else s.2) (fun q hq => hl q (by simp [hq])) hn'.2 (by simpa using hlen)
      refine ⟨fun i q b hq hb => ?_, fun q hq hnq => ?_, ?_⟩
      · cases i with
        | zero =>
          obtain rfl : k = q := by simpa using hq
          obtain rfl : a = b := by simpa using hb
          rw [h2 k hk hn'.1]; dsimp only; rw [YL s.1 hk a hk, if_pos rfl]
        | succ i => exact h1 i q b (by simpa using hq) (by simpa using hb)
      · rw [h2 q hq (fun h => hnq (by simp [h]))]; dsimp only
        rw [YL s.1 hk a hq, if_neg (fun e => hnq (by simp [e]))]
      · rw [h3]; dsimp only
        have hm : l.map (qZ (yu s.1 k a)) = l.map (qZ s.1) := List.map_congr_left fun q hq => by
          rw [YL s.1 hk a (hl q (by simp [hq])), if_neg (fun e => hn'.1 (by rw [← e]; exact hq))]
        rw [hm, List.map_cons]
        unfold nz
        rw [List.filter_cons]
        by_cases e : qZ s.1 k ≠ 0
        · rw [if_pos e, if_pos (by simpa using e), List.append_assoc]; rfl
        · rw [if_neg e, if_neg (by simpa using e)]
theorem Xl : ∀ (l : List (Int × Int)) (bs : List Int) (s : RS × List Int) (i : Int), l.length = bs.length → ((ws l bs s).1.all i).has = (s.1.all i).has ∧ ((ws l bs s).1.all i).s = (s.1.all i).s ∧
    (((ws l bs s).1.all i).fresh = true ↔ ((s.1.all i).fresh = true ∧ (1, i) ∉ l)) := by
  intro l
  induction l with
  | nil => intro bs s i _; rw [kx]; simp
  | cons k l ih =>
    intro bs s i hlen
    cases bs with
    | nil => simp at hlen
    | cons a bs =>
      rw [ws]
      have h := ih bs (yu s.1 k a, if qZ s.1 k ≠ 0 then s.2 ++ [qZ s.1 k] else s.2) i (by simpa using hlen)
      have h2 := putR_blk s.1 k a i
      refine ⟨h.1.trans h2.1, h.2.1.trans h2.2.1, ?_⟩
      rw [h.2.2, h2.2.2]
      by_cases e : k = (1, i)
      · rw [if_pos e, e]; simp
      · rw [if_neg e]; simp [Ne.symm e]
theorem sectorR_ext {W W1 : RS} (h : ∀ k, qo k → qZ W1 k = qZ W k) (hs : ∀ i, InB i → (W1.all i).s = (W.all i).s) (hn : W1.num = W.num) (hv : W1.ver = W.ver) (hk : W1.kind = W.kind) (hsz : W1.size = W.size) (ht : W1.time = W.time)
    {k : Int × Int} (hkp : qo k) : wd W1 k = wd W k := by
  rcases qz hkp with ⟨i, hi, rfl⟩ | rfl | rfl | rfl | ⟨j, hj, rfl⟩
  · rw [yD, yD, hs i hi]
  · exact x9 h hn hv hk hsz ht
  · exact kj h zE (by decide) (by decide)
  · exact kj h zI (by decide) (by decide)
  · exact kj h (zj hj) (by simp) (by simp)
theorem JB {l m : List Int} (hl : j2 l) (h : l = m) : jU l hl = We m := by subst h; exact (Qz hl).symm
theorem inoS_eq {x y : Ino} (hx : x.Ok) (h : x = y) : ZA x hx = Xf y := by subst h; exact (Yx hx).symm
theorem sector_eq {n : NS} {W : RS} (hok : NOk n) (hf : NFl n) (hat : ∀ k, qo k → (n.at_ k).getD 0 = qZ W k) (hn : n.num = W.num) (hv : n.ver = W.ver) (hkd : n.kind = W.kind) (hsz : n.size = W.size) (ht : n.time = W.time)
    {k : Int × Int} (hk : qo k) (h1 : k.1 = 1 → (n.data k.2).getD Sec.zero = (W.all k.2).s) : yF n hok hf k = wd W k := by
  have hats : ∀ f : Int → Int × Int, (∀ j : Nat, j < 32 → qo (f j)) → YI n f = zZ W f := fun f hf => List.map_congr_left fun j hj => hat _ (hf j (List.mem_range.1 hj))
  unfold yF wd
  rcases qz hk with ⟨i, hi, rfl⟩ | rfl | rfl | rfl | ⟨j, hj, rfl⟩
  · rw [if_pos rfl, if_pos rfl]; exact h1 rfl
  · rw [if_neg (by decide), if_neg (by decide), if_neg (by decide), if_neg (by decide), if_neg (by decide), if_neg (by decide), if_neg (by decide), if_neg (by decide)]
    refine inoS_eq _ ?_
    unfold YH kv
    rw [hn, hv, hkd, hsz, ht, show atN n (3, 0) = W.sg.at_ from hat (3, 0) zE, show atN n (4, 0) = W.db.at_ from hat (4, 0) zI]
    congr 1
    refine List.map_congr_left fun j hj => hat _ (zz ?_)
    have := List.mem_range.1 hj
    exact ⟨by omega, by omega⟩
  · rw [if_neg (by decide), if_neg (by decide), if_pos rfl, if_neg (by decide), if_neg (by decide), if_pos rfl]
    exact JB _ (hats _ xD)
  · rw [if_neg (by decide), if_neg (by decide), if_neg (by decide), if_pos rfl, if_neg (by decide), if_neg (by decide), if_neg (by decide), if_pos rfl]
    exact JB _ (hats _ jr)
  · rw [if_neg (by simp), if_pos rfl, if_neg (by simp), if_pos rfl]
    exact JB _ (hats _ (xC hj))
theorem allParts_nodup : allParts.Nodup := allParts_sorted.imp (fun {a b} h e => by subst e; exact YC a h)
theorem pend_nodup (W : RS) : (zf W).Nodup := by classical rw [Z4]; exact allParts_nodup.sublist List.filter_sublist
theorem Kr (W : RS) {k : Int × Int} (hk : qo k) : qZ (Wv W) k = qZ W k := by
  rcases qz hk with ⟨i, hi, rfl⟩ | rfl | rfl | rfl | ⟨j, hj, rfl⟩
  · rfl
  · rfl
  · rfl
  · rfl
  · rw [kF, kF]
    show (lvT W 32 j).at_ = _
    unfold lvT; split <;> rfl
theorem Zu (W : RS) {k : Int × Int} (hk : qo k) (h1 : k.1 ≠ 1) : wl (Wv W) k = false := by
  rcases qz hk with ⟨i, hi, rfl⟩ | rfl | rfl | rfl | ⟨j, hj, rfl⟩
  · exact absurd rfl h1
  · rfl
  · rfl
  · rfl
  · unfold wl; rw [if_pos rfl]
    show (lvT W 32 j).stale = _
    unfold lvT; rw [if_pos (by omega)]
theorem Jn {W : RS} (hf : ∀ i, InB i → (W.all i).fresh = false) (hs : ∀ k, qo k → k.1 ≠ 1 → wl W k = false) {k : Int × Int} (hk : qo k) : ¬ prR W k := by
  have hfr : ∀ q, ¬ frB W q := fun q ⟨i, hi, h, _⟩ => by rw [hf i hi] at h; cases h
  have hch : ∀ q, qo q → q.1 ≠ 1 → ¬ chB W q := fun q hq h1 h => h.elim (fun e => by rw [hs q hq h1] at e; cases e) (hfr q)
  have hcl : ¬ chL W := fun ⟨j, h0, h1, h2⟩ => hch _ (zj ⟨h0, h1⟩) (by simp) h2
  unfold prR
  rcases qz hk with ⟨i, hi, rfl⟩ | rfl | rfl | rfl | ⟨j, hj, rfl⟩
  · rw [if_pos rfl, hf i hi]; simp
  · rw [if_neg (by decide), if_neg (by decide), if_neg (by decide), if_neg (by decide), hs _ zy (by decide), hs _ zE (by decide), hs _ zI (by decide)]
    rintro (⟨i, hi, h⟩ | h | h | h | h)
    · rw [hf i hi] at h; cases h
    · cases h
    · cases h
    · cases h
    · exact hcl h
  · rw [if_neg (by decide), if_neg (by decide), if_pos rfl]; exact fun h => hch _ zE (by decide) h.1
  · rw [if_neg (by decide), if_neg (by decide), if_neg (by decide), if_pos rfl, hs _ zI (by decide)]
    rintro ⟨h | h, -⟩
    · cases h
    · exact hcl h
  · rw [if_neg (by simp), if_pos rfl]; exact fun h => hch _ (zj hj) (by simp) h.1
theorem XV {W : RS} (h : ¬ prR W (2, 0)) : (∀ i, InB i → (W.all i).fresh = false) ∧ ∀ k, qo k → k.1 ≠ 1 → wl W k = false := by
  unfold prR at h
  rw [if_neg (by decide), if_neg (by decide), if_neg (by decide), if_neg (by decide)] at h
  constructor
  · intro i hi
    cases e : (W.all i).fresh with
    | false => rfl
    | true => exact absurd (.inl ⟨i, hi, e⟩) h
  · intro k hk h1
    cases e : wl W k with
    | false => rfl
    | true =>
      rcases qz hk with ⟨i, hi, rfl⟩ | rfl | rfl | rfl | ⟨j, hj, rfl⟩
      · exact absurd rfl h1
      · exact absurd (.inr (.inl e)) h
      · exact absurd (.inr (.inr (.inl e))) h
      · exact absurd (.inr (.inr (.inr (.inl e)))) h
      · exact absurd (.inr (.inr (.inr (.inr ⟨j, hj.1, hj.2, .inl e⟩)))) h
theorem Yh {f : Int × Int → Sec} : ∀ (l : List ((Int × Int) × Int)) (D : Int → Option Sec) (a : Int), (∀ p ∈ l, p.2 ≠ a) → xS f D l a = D a := by
  intro l
  induction l with
  | nil => intro D a _; rfl
  | cons p l ih =>
    intro D a h
    unfold xS at ih ⊢
    rw [List.foldl_cons, ih _ _ (fun q hq => h q (by simp [hq])), wI _ _ (Ne.symm (h p (by simp)))]
theorem putDs_at {f : Int × Int → Sec} : ∀ (l : List ((Int × Int) × Int)) (D : Int → Option Sec) (k : Int × Int) (a : Int), l.Pairwise (fun p q => p.2 ≠ q.2) → (k, a) ∈ l → xS f D l a = some (f k) := by
  intro l
  induction l with
  | nil => intro D k a _ h; cases h
  | cons p l ih =>
    intro D k a hp h
    have hp' := List.pairwise_cons.1 hp
    rcases List.mem_cons.1 h with rfl | h
    · have := Yh (f := f) l (upd D a (some (f k))) a (fun q hq => Ne.symm (hp'.1 q hq))
      unfold xS at this ⊢
      rw [List.foldl_cons, this, wx]
    · have := ih (upd D p.2 (some (f p.1))) k a hp'.2 h
      unfold xS at this ⊢
      rw [List.foldl_cons, this]
theorem WT {l : List Int} : ∀ (D : Int → Option Sec) (a : Int), a ∉ l → QE D l a = D a := by
  induction l with
  | nil => intro D a _; rfl
  | cons g l ih =>
    intro D a h
    unfold QE at ih ⊢
    rw [List.foldl_cons, ih _ _ (fun hm => h (by simp [hm])), wI _ _ (fun e => h (by simp [e]))]
theorem delDs_mem {l : List Int} : ∀ (D : Int → Option Sec) (a : Int), a ∈ l → QE D l a = none := by
  induction l with
  | nil => intro D a h; cases h
  | cons g l ih =>
    intro D a h
    by_cases hm : a ∈ l
    · have := ih (upd D g none) a hm
      unfold QE at this ⊢
      rw [List.foldl_cons, this]
    · have hg : a = g := by rcases List.mem_cons.1 h with e | e
                            · exact e
                            · exact absurd e hm
      have := WT (l := l) (upd D g none) a hm
      unfold QE at this ⊢
      rw [List.foldl_cons, this, hg, wx]
theorem mem_srt {l : List Int} {a : Int} : a ∈ srt l ↔ a ∈ l := (List.mergeSort_perm l _).mem_iff
theorem mem_nz {l : List Int} {a : Int} : a ∈ nz l ↔ a ∈ l ∧ a ≠ 0 := by unfold nz; rw [List.mem_filter, decide_eq_true_eq]
section
variable {n : NS} {W : RS} {D : Int → Option Sec} {nx : Int}
theorem commit_cpl (h : Cpl n W) (hI : Inv W D nx) {l : List (Int × Int)} {ats : List Int} (hl : zf W = l) (hats : ats = x7 nx l.length) (hnx : nx + l.length ≤ 65536) (hr : ∀ a ∈ ats, 1 ≤ a ∧ a ≤ 65535) :
    Cpl (xp n ats) (wm W ats) ∧ ROk (yQ W ats) ∧ srt (jx n ats) = srt (x6 W ats) ∧
    (∀ (hok : NOk n) (hfl : NFl n), ∀ k ∈ l, yF (W6 n ats) (xF hok hr) (Qa hfl ats) k = wd (yQ W ats) k) := by
  have hlp : ∀ k ∈ l, qo k := fun k hk => Wo (hl ▸ hk)
  have hal : ats.length = l.length := by rw [hats, WX]
  have hpp : y3 n = l := (h.parts hI.has).trans hl
  have hc := cm_cpl l ats n.at_ n.gone W W.gone hlp h.at_ h.gone
  have hnm := Qg l ats (W, W.gone)
  have hmid : yQ W ats = (ws l ats (W, W.gone)).1 := by unfold yQ; rw [hl]
  have hmn : W6 n ats = { n with at_ := (yz l ats (n.at_, n.gone)).1 } := by unfold W6; rw [hpp]
  have hat : ∀ k, qo k → ((W6 n ats).at_ k).getD 0 = qZ (yQ W ats) k := by rw [hmid, hmn]; exact hc.1
  have hblk := fun i => Xl l ats (W, W.gone) i hal.symm
  have hfr : ∀ i, InB i → ((yQ W ats).all i).fresh = false := by
    intro i hi
    cases e : ((yQ W ats).all i).fresh with
    | false => rfl
    | true =>
      rw [hmid] at e
      have := (hblk i).2.2.1 e
      exact absurd (by rw [← hl]; exact (W7 W _).2 ⟨zz hi, kb.2 this.1⟩) this.2
  have hmok := xF h.ok hr
  refine ⟨?_, ?_, ?_, ?_⟩
  · have hcn : xp n ats = { W6 n ats with data := fun _ => none, stale := fun _ => none, gone := [] } := rfl
    have hcok := commitN_ok h.ok hr
    refine ⟨?_, ?_, ?_, ?_, ?_, fun k hk => ?_, fun i hi => ?_, fun k hk h1 => ?_, fun i => rfl, List.Perm.refl _, hcok⟩
    · show n.num = _; rw [show (wm W ats).num = (yQ W ats).num from rfl, hmid, hnm.1]; exact h.num
    · show n.ver = _; rw [show (wm W ats).ver = (yQ W ats).ver from rfl, hmid, hnm.2.1]; exact h.ver
    · show n.kind = _; rw [show (wm W ats).kind = (yQ W ats).kind from rfl, hmid, hnm.2.2.1]; exact h.kind
    · show n.size = _; rw [show (wm W ats).size = (yQ W ats).size from rfl, hmid, hnm.2.2.2.1]; exact h.size
    · show n.time = _; rw [show (wm W ats).time = (yQ W ats).time from rfl, hmid, hnm.2.2.2.2]; exact h.time
    · show ((W6 n ats).at_ k).getD 0 = _; rw [hat k hk]; exact (Kr _ hk).symm
    · show none = _
      rw [show (wm W ats).all = (yQ W ats).all from rfl, hfr i hi]; rfl
    · show none ≠ none ↔ _
      rw [show wm W ats = Wv (yQ W ats) from rfl, Zu _ hk h1]; simp
  · refine ⟨?_, ?_, ?_, ?_, ?_, fun k hk => ?_⟩
    · rw [hmid, hnm.1]; dsimp only; rw [hI.num]; omega
    · rw [hmid, hnm.2.1]; dsimp only; rw [hI.ver]; omega
    · rw [hmid, hnm.2.2.1]; exact hI.kind
    · rw [hmid, hnm.2.2.2.1]; exact hI.size
    · rw [hmid, hnm.2.2.2.2]; exact hI.time
    · rw [← hat k hk]; exact JS hmok k
  · unfold jx x6
    rw [hpp, hl]; exact srt_perm hc.2
  · intro hok hfl k hk
    refine sector_eq _ _ hat ?_ ?_ ?_ ?_ ?_ (hlp k hk) (fun h1 => ?_)
    · show n.num = _; rw [hmid, hnm.1]; exact h.num
    · show n.ver = _; rw [hmid, hnm.2.1]; exact h.ver
    · show n.kind = _; rw [hmid, hnm.2.2.1]; exact h.kind
    · show n.size = _; rw [hmid, hnm.2.2.2.1]; exact h.size
    · show n.time = _; rw [hmid, hnm.2.2.2.2]; exact h.time
    · show (n.data k.2).getD _ = _
      have hkp := (W7 W k).1 (hl ▸ hk)
      obtain ⟨i, hi, rfl⟩ : ∃ i, InB i ∧ k = (1, i) := by
        rcases qz hkp.1 with e | rfl | rfl | rfl | ⟨j, hj, rfl⟩
        · exact e
        · exact absurd h1 (by decide)
        · exact absurd h1 (by decide)
        · exact absurd h1 (by decide)
        · exact absurd h1 (by simp)
      rw [h.data i hi, if_pos (kb.1 hkp.2), hmid, (hblk i).2.1]; rfl
theorem commit_inv (hI : Inv W D nx) {l : List (Int × Int)} {ats : List Int} (hl : zf W = l) (hats : ats = x7 nx l.length) :
    Inv (wm W ats) (QE (xS (wd (yQ W ats)) D (l.zip ats)) (srt (x6 W ats))) (nx + l.length) ∧ (∀ k, qo k → ¬ prR (wm W ats) k) ∧ (∀ k, qo k → (k.1 ≠ 1 → k.1 ≠ 2 → j8 W k) → (k.1 = 1 → (W.all k.2).has = true) → qZ (wm W ats) k ≠ 0) ∧ (wm W ats).gone = [] ∧ (∀ i, ((wm W ats).all i).has = (W.all i).has ∧ ((wm W ats).all i).s = (W.all i).s) := by
  have hnx := hI.nx
  have hlp : ∀ k ∈ l, qo k := fun k hk => Wo (hl ▸ hk)
  have hlm : ∀ k, k ∈ l ↔ qo k ∧ prR W k := fun k => by rw [← hl]; exact W7 W k
  have hal : ats.length = l.length := by rw [hats, WX]
  have hatg : ∀ i : Nat, i < l.length → ats[i]? = some (nx + i) := fun i hi => by rw [hats]; exact Kt nx hi
  have hnm := Qg l ats (W, W.gone)
  have hmid : yQ W ats = (ws l ats (W, W.gone)).1 := by unfold yQ; rw [hl]
  obtain ⟨hin, hout, hdd⟩ := cmR_in l ats (W, W.gone) hlp (hl ▸ pend_nodup W) hal.symm
  have hdead : x6 W ats = W.gone ++ nz (l.map (qZ W)) := by unfold x6; rw [hl]; exact hdd
  rw [← hmid] at hin hout hnm
  have hblk : ∀ i, ((yQ W ats).all i).has = (W.all i).has ∧ ((yQ W ats).all i).s = (W.all i).s ∧ (((yQ W ats).all i).fresh = true ↔ ((W.all i).fresh = true ∧ (1, i) ∉ l)) := by
    intro i; have := Xl l ats (W, W.gone) i hal.symm; rw [← hmid] at this; exact this
  have hfr : ∀ i, InB i → ((yQ W ats).all i).fresh = false := by
    intro i hi
    cases e : ((yQ W ats).all i).fresh with
    | false => rfl
    | true =>
      have := (hblk i).2.2.1 e
      exact absurd ((hlm _).2 ⟨zz hi, kb.2 this.1⟩) this.2
  have hnew : ∀ k ∈ l, ∃ i : Nat, i < l.length ∧ l[i]? = some k ∧ qZ (yQ W ats) k = nx + i := by
    intro k hk
    obtain ⟨i, hi⟩ := List.mem_iff_getElem?.1 hk
    have hlt := (List.getElem?_eq_some_iff.1 hi).1
    exact ⟨i, hlt, hi, hin i k _ hi (hatg i hlt)⟩
  have hold : ∀ k, qo k → k ∉ l → qZ (yQ W ats) k = qZ W k := hout
  have hC : ∀ k, qo k → qZ (wm W ats) k = qZ (yQ W ats) k := fun k hk => Kr _ hk
  have hpr : ∀ k, qo k → ¬ prR (wm W ats) k := fun k hk => Jn (W := wm W ats) (fun i hi => hfr i hi) (fun q hq h1 => Zu (yQ W ats) hq h1) hk
  have hkb : ∀ k, j8 (wm W ats) k ↔ j8 W k := Js (fun i hi => (hblk i).1)
  have hplace : ∀ k, qo k → (k.1 ≠ 1 → k.1 ≠ 2 → j8 W k) → (k.1 = 1 → (W.all k.2).has = true) → qZ (wm W ats) k ≠ 0 := by
    intro k hk h1 h2
    rw [hC k hk]
    by_cases hm : k ∈ l
    · obtain ⟨i, -, -, e⟩ := hnew k hm
      rw [e]; omega
    · rw [hold k hk hm]
      have hnp : ¬ prR W k := fun e => hm ((hlm k).2 ⟨hk, e⟩)
      by_cases e1 : k.1 = 1
      · rcases qz hk with ⟨i, hi, rfl⟩ | rfl | rfl | rfl | ⟨j, hj, rfl⟩
        · exact ((hI.has i hi).1 (h2 rfl)).resolve_left (fun e => hnp (kb.2 e))
        · exact absurd e1 (by decide)
        · exact absurd e1 (by decide)
        · exact absurd e1 (by decide)
        · exact absurd e1 (by simp)
      · exact (hI.place k hk e1 (h1 e1)).resolve_right hnp
  have hdm : ∀ a, a ∈ srt (x6 W ats) ↔ (a ∈ W.gone ∨ ∃ k ∈ l, qZ W k = a ∧ a ≠ 0) := by
    intro a
    rw [mem_srt, hdead, List.mem_append, mem_nz, List.mem_map]
    refine or_congr Iff.rfl ⟨?_, ?_⟩
    · rintro ⟨⟨k, hk, e⟩, h0⟩; exact ⟨k, hk, e, h0⟩
    · rintro ⟨k, hk, e, h0⟩; exact ⟨⟨k, hk, e⟩, h0⟩
  have hdlt : ∀ a ∈ srt (x6 W ats), a < nx := by
    intro a ha
    rcases (hdm a).1 ha with h | ⟨k, hk, e, h0⟩
    · exact (hI.rngG a h).2
    · have := hI.rngA k (hlp k hk) (by rw [e]; exact h0); rw [e] at this; exact this.2
  have hzip : ∀ p ∈ l.zip ats, ∃ i : Nat, i < l.length ∧ l[i]? = some p.1 ∧ p.2 = nx + i := by
    intro p hp
    obtain ⟨i, hi⟩ := List.mem_iff_getElem?.1 hp
    rw [List.getElem?_zip_eq_some] at hi
    have hlt := (List.getElem?_eq_some_iff.1 hi.1).1
    refine ⟨i, hlt, hi.1, ?_⟩
    have := hi.2; rw [hatg i hlt] at this; exact (Option.some.inj this).symm
  have hzp : (l.zip ats).Pairwise (fun p q => p.2 ≠ q.2) := by
    rw [List.pairwise_iff_getElem]
    intro i j hi hj hij
    rw [List.length_zip] at hi hj
    rw [List.getElem_zip, List.getElem_zip]
    dsimp only
    have e1 := hatg i (by omega)
    have e2 := hatg j (by omega)
    rw [List.getElem?_eq_getElem (by omega)] at e1 e2
    rw [Option.some.inj e1, Option.some.inj e2]; omega
  have hsecS : ∀ k, qo k → wd (wm W ats) k = wd (yQ W ats) k := fun k hk => sectorR_ext hC (fun i _ => rfl) rfl rfl rfl rfl rfl hk
  have hdisk : ∀ k, qo k → qZ (wm W ats) k ≠ 0 → QE (xS (wd (yQ W ats)) D (l.zip ats)) (srt (x6 W ats)) (qZ (wm W ats) k) = some (wd (wm W ats) k) := by
    intro k hk h0
    rw [hsecS k hk]
    rw [hC k hk] at h0 ⊢
    by_cases hm : k ∈ l
    · obtain ⟨i, hlt, hki, e⟩ := hnew k hm
      rw [e, WT _ _ (fun hd => by have := hdlt _ hd; omega)]
      refine putDs_at _ _ _ _ hzp ?_
      exact List.mem_of_getElem? (i := i) (by rw [List.getElem?_zip_eq_some]; exact ⟨hki, hatg i hlt⟩)
    · rw [hold k hk hm] at h0 ⊢
      have hnp : ¬ prR W k := fun e => hm ((hlm k).2 ⟨hk, e⟩)
      have hlt := (hI.rngA k hk h0).2
      rw [WT _ _ (fun hd => ?_), Yh _ _ _ (fun p hp => ?_), hI.disk k hk h0 hnp]
      · congr 1
        rcases qz hk with ⟨i, hi, rfl⟩ | rfl | rfl | rfl | ⟨j, hj, rfl⟩
        · rw [yD, yD, (hblk i).2.1]
        · have hnone := XV hnp
          refine (x9 (fun q hq => hold q hq (fun hq2 => ?_)) hnm.1 hnm.2.1 hnm.2.2.1 hnm.2.2.2.1 hnm.2.2.2.2).symm
          exact Jn hnone.1 hnone.2 hq ((hlm q).1 hq2).2
        · have hkid := hI.kid _ zE (by decide) (by decide) (.inl h0)
          unfold prR at hnp; rw [if_neg (by decide), if_neg (by decide), if_pos rfl] at hnp
          have hnf : ∀ i, InB i → wj i = (3, 0) → (W.all i).fresh = false := fun i hi ha => by
            cases e : (W.all i).fresh with
            | false => rfl
            | true => exact absurd ⟨.inr ⟨i, hi, e, ha⟩, hkid⟩ hnp
          have : zZ (yQ W ats) (z6 1 0) = zZ W (z6 1 0) := by
            unfold zZ
            refine List.map_congr_left fun j hj => ?_
            have hj := List.mem_range.1 hj
            refine hold _ (xD j hj) (fun hm2 => ?_)
            have hp2 := ((hlm _).1 hm2).2
            unfold z6 at hp2
            rw [if_neg (by decide), if_pos rfl, kb] at hp2
            rw [hnf (8 + 0 * 32 + j) ⟨by omega, by omega⟩ (WI.2 (by unfold w8; rw [if_neg (by omega), if_neg (by omega), if_pos (by omega)]))] at hp2
            cases hp2
          unfold wd
          rw [if_neg (by decide), if_neg (by decide), if_pos rfl, if_neg (by decide), if_neg (by decide), if_pos rfl, this]
        · have hkid := hI.kid _ zI (by decide) (by decide) (.inl h0)
          unfold prR at hnp; rw [if_neg (by decide), if_neg (by decide), if_neg (by decide), if_pos rfl] at hnp
          have : zZ (yQ W ats) (fun j => (5, j)) = zZ W (fun j => (5, j)) := by
            unfold zZ
            refine List.map_congr_left fun j hj => ?_
            have hj := List.mem_range.1 hj
            refine hold _ (jr j hj) (fun hm2 => ?_)
            have hp2 := ((hlm _).1 hm2).2
            unfold prR at hp2
            rw [if_neg (by simp), if_pos rfl] at hp2
            exact hnp ⟨.inr ⟨j, by omega, by omega, hp2.1⟩, hkid⟩
          unfold wd
          rw [if_neg (by decide), if_neg (by decide), if_neg (by decide), if_pos rfl, if_neg (by decide), if_neg (by decide), if_neg (by decide), if_pos rfl, this]
        · have hkid := hI.kid _ (zj hj) (by simp) (by simp) (.inl h0)
          unfold prR at hnp; rw [if_neg (by simp), if_pos rfl] at hnp
          have hnf : ∀ i, InB i → wj i = (5, j) → (W.all i).fresh = false := fun i hi ha => by
            cases e : (W.all i).fresh with
            | false => rfl
            | true => exact absurd ⟨.inr ⟨i, hi, e, ha⟩, hkid⟩ hnp
          have : zZ (yQ W ats) (z6 2 j) = zZ W (z6 2 j) := by
            unfold zZ
            refine List.map_congr_left fun m hm3 => ?_
            have hm3 := List.mem_range.1 hm3
            refine hold _ (xC hj m hm3) (fun hm2 => ?_)
            have hp2 := ((hlm _).1 hm2).2
            unfold z6 at hp2
            rw [if_neg (by decide), if_neg (by decide), kb] at hp2
            rw [hnf (40 + j * 32 + m) ⟨by omega, by omega⟩ (WH.2 (by unfold w8; rw [if_neg (by omega), if_neg (by omega), if_neg (by omega), if_pos (by omega)]; exact ⟨rfl, by dsimp only; omega⟩))] at hp2
            cases hp2
          unfold wd
          rw [if_neg (by simp), if_pos rfl, if_neg (by simp), if_pos rfl]
          exact congrArg We this.symm
      · obtain ⟨i, -, -, e⟩ := hzip p hp
        omega
      · rcases (hdm _).1 hd with hg | ⟨q, hq, e, -⟩
        · exact hI.gdj _ hg k hk rfl
        · exact hm (by rw [hI.inj k q hk (hlp q hq) h0 e.symm]; exact hq)
  refine ⟨⟨?_, ?_, ?_, ?_, ?_, ?_, ?_, ?_, ?_, ?_, ?_, ?_, ?_, ?_, ?_, ?_, ?_, ?_, ?_⟩, hpr, hplace, rfl, fun i => ⟨(hblk i).1, (hblk i).2.1⟩⟩
  · intro i hi
    rw [show ((wm W ats).all i) = (yQ W ats).all i from rfl, (hblk i).1, hfr i hi]
    have hwi : ((yQ W ats).all i).at_ = qZ (wm W ats) (1, i) := by rw [hC _ (zz hi)]; rfl
    constructor
    · intro hh
      right; rw [hwi]
      exact hplace (1, i) (zz hi) (fun e => absurd rfl e) (fun _ => hh)
    · rintro (e | e)
      · cases e
      · rw [hI.has i hi]
        by_cases hm : (1, i) ∈ l
        · exact .inl (kb.1 ((hlm _).1 hm).2)
        · right
          rw [hwi, hC _ (zz hi), hold _ (zz hi) hm] at e; exact e
  · intro i hi hh
    rw [show ((wm W ats).all i) = (yQ W ats).all i from rfl, (hblk i).2.1]
    rw [show ((wm W ats).all i) = (yQ W ats).all i from rfl, (hblk i).1] at hh
    exact hI.hole i hi hh
  · intro k hk h1 h2 hh
    rw [hkb]
    rcases hh with hh | hh
    · rw [hC k hk] at hh
      by_cases hm : k ∈ l
      · have hp := ((hlm k).1 hm).2
        unfold prR at hp
        rw [if_neg h1] at hp
        rcases qz hk with ⟨i, hi, rfl⟩ | rfl | rfl | rfl | ⟨j, hj, rfl⟩
        · exact absurd rfl h1
        · exact absurd rfl h2
        · rw [if_neg (by decide), if_pos rfl] at hp; exact hp.2
        · rw [if_neg (by decide), if_neg (by decide), if_pos rfl] at hp; exact hp.2
        · rw [if_pos rfl] at hp; exact hp.2
      · rw [hold k hk hm] at hh; exact hI.kid k hk h1 h2 (.inl hh)
    · rw [show wm W ats = Wv (yQ W ats) from rfl, Zu _ hk h1] at hh; cases hh
  · intro k hk h1 hh
    left
    exact hplace k hk (fun _ h2 => (hkb k).1 (hh h2)) (fun e => absurd e h1)
  · intro k hk h0
    rw [hC k hk] at h0 ⊢
    by_cases hm : k ∈ l
    · obtain ⟨i, hlt, -, e⟩ := hnew k hm; rw [e]; omega
    · rw [hold k hk hm] at h0 ⊢; have := hI.rngA k hk h0; omega
  · intro a ha; cases ha
  · intro k q hk hq h0 e
    rw [hC k hk] at h0 e; rw [hC q hq] at e
    by_cases hm : k ∈ l
    · obtain ⟨i, hlt, hki, ei⟩ := hnew k hm
      by_cases hm2 : q ∈ l
      · obtain ⟨j, hlt2, hqj, ej⟩ := hnew q hm2
        obtain rfl : i = j := by omega
        rw [hki] at hqj; exact Option.some.inj hqj
      · rw [hold q hq hm2] at e
        by_cases hz : qZ W q = 0
        · omega
        · have := hI.rngA q hq hz; omega
    · by_cases hm2 : q ∈ l
      · obtain ⟨j, hlt2, hqj, ej⟩ := hnew q hm2
        rw [hold k hk hm] at h0 e
        have := hI.rngA k hk h0; omega
      · rw [hold k hk hm] at h0 e; rw [hold q hq hm2] at e; exact hI.inj k q hk hq h0 e
  · exact List.nodup_nil
  · intro a ha; cases ha
  · intro k hk h0 _; exact hdisk k hk h0
  · intro a
    constructor
    · intro hne
      right
      by_cases hd : a ∈ srt (x6 W ats)
      · rw [delDs_mem _ _ hd] at hne; exact absurd rfl hne
      · rw [WT _ _ hd] at hne
        by_cases hz : ∃ p ∈ l.zip ats, p.2 = a
        · obtain ⟨p, hp, e⟩ := hz
          obtain ⟨i, hlt, hpi, e2⟩ := hzip p hp
          have hpm := List.mem_of_getElem? hpi
          refine ⟨p.1, hlp _ hpm, ?_, by omega⟩
          rw [hC _ (hlp _ hpm), hin i p.1 _ hpi (hatg i hlt), ← e, e2]
        · rw [Yh _ _ _ (fun p hp e => hz ⟨p, hp, e⟩)] at hne
          rcases (hI.keys a).1 hne with hg | ⟨k, hk, e, h0⟩
          · exact absurd ((hdm a).2 (.inl hg)) hd
          · by_cases hm : k ∈ l
            · exact absurd ((hdm a).2 (.inr ⟨k, hm, e, h0⟩)) hd
            · exact ⟨k, hk, by rw [hC k hk, hold k hk hm, e], h0⟩
    · rintro (hg | ⟨k, hk, e, h0⟩)
      · cases hg
      · rw [← e, hdisk k hk (by rw [e]; exact h0)]; simp
  · intro hg; exact absurd rfl hg
  · intro i hi j hj hle
    rw [show ((wm W ats).all i) = (yQ W ats).all i from rfl, (hblk i).2.1]
    exact hI.zero i hi j hj (by rw [show (wm W ats).size = (yQ W ats).size from rfl, hnm.2.2.2.1] at hle; exact hle)
  · rw [show (wm W ats).num = (yQ W ats).num from rfl, hnm.1]; exact hI.num
  · rw [show (wm W ats).ver = (yQ W ats).ver from rfl, hnm.2.1]; exact hI.ver
  · rw [show (wm W ats).kind = (yQ W ats).kind from rfl, hnm.2.2.1]; exact hI.kind
  · rw [show (wm W ats).size = (yQ W ats).size from rfl, hnm.2.2.2.1]; exact hI.size
  · rw [show (wm W ats).time = (yQ W ats).time from rfl, hnm.2.2.2.2]; exact hI.time
  · omega
end
theorem Wm (W : RS) : ∀ (xs : List Int) (b : Int) (f : Int × Int → Option Int), (∀ (j : Nat) x, xs[j]? = some x → x = qZ W (1, b + j)) →
    ∀ k, jI xs b f k = if k.1 = 1 ∧ b ≤ k.2 ∧ k.2 < b + xs.length ∧ qZ W k ≠ 0 then some (qZ W k) else f k := by
  intro xs
  induction xs with
  | nil => intro b f _ k; rw [if_neg (by rintro ⟨-, h1, h2, -⟩; simp at h2; omega)]; rfl
  | cons x xs ih =>
    intro b f h k
    have hx : x = qZ W (1, b) := by have := h 0 x rfl; simpa using this
    unfold jI
    rw [ih (b + 1) _ (fun j y hy => by rw [h (j + 1) y (by simpa using hy)]; congr 2; push_cast; omega) k]
    have hlen : ((x :: xs).length : Int) = xs.length + 1 := by simp
    rw [hlen]
    by_cases h1 : k.1 = 1 ∧ b + 1 ≤ k.2 ∧ k.2 < b + 1 + xs.length ∧ qZ W k ≠ 0
    · rw [if_pos h1, if_pos ⟨h1.1, by omega, by omega, h1.2.2.2⟩]
    · rw [if_neg h1]
      by_cases hk : k = (1, b)
      · subst hk
        rw [← hx]
        by_cases e : x = 0
        · rw [if_neg (by simpa using e), if_neg (fun h => h.2.2.2 e)]
        · rw [if_pos e, wx, if_pos ⟨rfl, Int.le_refl _, by dsimp only; omega, e⟩]
      · have hne : ¬ (k.1 = 1 ∧ b ≤ k.2 ∧ k.2 < b + (xs.length + 1) ∧ qZ W k ≠ 0) := by
          rintro ⟨a1, a2, a3, a4⟩
          by_cases e : k.2 = b
          · exact hk (Prod.ext a1 e)
          · exact h1 ⟨a1, by omega, by omega, a4⟩
        rw [if_neg hne]
        split
        · rw [wI _ _ hk]
        · rfl
theorem KR (W : RS) (q : Int × Int) (f : Int × Int → Option Int) (k : Int × Int) : Jl q (qZ W q) f k = if k = q ∧ qZ W k ≠ 0 then some (qZ W k) else f k := by
  unfold Jl
  by_cases e : qZ W q = 0
  · rw [if_pos e, if_neg (by rintro ⟨rfl, h⟩; exact h e)]
  · rw [if_neg e]
    by_cases hk : k = q
    · subst hk; rw [wx, if_pos ⟨rfl, e⟩]
    · rw [wI _ _ hk, if_neg (fun h => hk h.1)]
theorem leafF_spec (W : RS) (l2 : List Int) (ll : Nat → List Int) (f : Int × Int → Option Int) (h2 : ∀ j : Nat, j < 32 → l2.getD j 0 = qZ W (5, j)) (hl : ∀ j : Nat, j < 32 → ll j = zZ W (z6 2 j)) :
    ∀ m : Nat, m ≤ 32 → ∀ k, WA l2 ll m f k = if (k.1 = 5 ∧ 0 ≤ k.2 ∧ k.2 < m ∧ qZ W k ≠ 0) ∨ (k.1 = 1 ∧ 40 ≤ k.2 ∧ k.2 < 40 + 32 * m ∧ qZ W k ≠ 0) then some (qZ W k) else f k := by
  intro m
  induction m with
  | zero => intro _ k; rw [if_neg (by rintro (⟨-, h1, h2, -⟩ | ⟨-, h1, h2, -⟩) <;> omega)]; rfl
  | succ m ih =>
    intro hm k
    unfold WA
    rw [Wm W (ll m) (yV 2 m) _ (fun j x hx => by
      rw [hl m (by omega)] at hx
      have hj : j < 32 := by have := (List.getElem?_eq_some_iff.1 hx).1; simpa [zZ] using this
      rw [QJ W _ hj] at hx
      rw [← Option.some.inj hx]; unfold z6 yV; rfl) k]
    have hbl : yV 2 (m : Int) = 40 + m * 32 := by unfold yV; rw [if_neg (by decide), if_neg (by decide)]
    have hll : (ll m).length = 32 := by rw [hl m (by omega)]; simp [zZ]
    rw [hbl, hll, h2 m (by omega)]
    by_cases c1 : k.1 = 1 ∧ 40 + (m : Int) * 32 ≤ k.2 ∧ k.2 < 40 + (m : Int) * 32 + (32 : Nat) ∧ qZ W k ≠ 0
    · rw [if_pos c1, if_pos (.inr ⟨c1.1, by omega, by push_cast at c1 ⊢; omega, c1.2.2.2⟩)]
    · rw [if_neg c1]
      have ih' := ih (by omega) k
      have key : (if qZ W (5, (m : Int)) = 0 then WA l2 ll m f else upd (WA l2 ll m f) (5, (m : Int)) (some (qZ W (5, (m : Int))))) k = if k = (5, (m : Int)) ∧ qZ W k ≠ 0 then some (qZ W k) else WA l2 ll m f k := by
        by_cases e : qZ W (5, (m : Int)) = 0
        · rw [if_pos e, if_neg (by rintro ⟨rfl, h⟩; exact h e)]
        · rw [if_neg e]
          by_cases hk : k = (5, (m : Int))
          · subst hk; rw [wx, if_pos ⟨rfl, e⟩]
          · rw [wI _ _ hk, if_neg (fun h => hk h.1)]
      rw [key, ih']
      by_cases c2 : k = (5, (m : Int)) ∧ qZ W k ≠ 0
      · rw [if_pos c2, if_pos (.inl ⟨by rw [c2.1], by rw [c2.1]; dsimp only; omega, by rw [c2.1]; push_cast; (try dsimp only); omega, c2.2⟩)]
      · rw [if_neg c2]
        by_cases c3 : (k.1 = 5 ∧ 0 ≤ k.2 ∧ k.2 < m ∧ qZ W k ≠ 0) ∨ (k.1 = 1 ∧ 40 ≤ k.2 ∧ k.2 < 40 + 32 * m ∧ qZ W k ≠ 0)
        · rw [if_pos c3, if_pos (c3.imp (fun h => ⟨h.1, h.2.1, by push_cast; omega, h.2.2.2⟩) (fun h => ⟨h.1, h.2.1, by push_cast; omega, h.2.2.2⟩))]
        · rw [if_neg c3, if_neg]
          rintro (⟨a1, a2, a3, a4⟩ | ⟨a1, a2, a3, a4⟩)
          · by_cases e : k.2 = m
            · exact c2 ⟨Prod.ext a1 e, a4⟩
            · exact c3 (.inl ⟨a1, a2, by push_cast at a3; omega, a4⟩)
          · by_cases e : 40 + (m : Int) * 32 ≤ k.2
            · exact c1 ⟨a1, e, by push_cast at a3 ⊢; omega, a4⟩
            · exact c3 (.inr ⟨a1, a2, by omega, a4⟩)
theorem Jr (W : RS) (l2 : List Int) (ll : Nat → List Int) (h2 : ∀ j : Nat, j < 32 → l2.getD j 0 = qZ W (5, j)) (hl : ∀ j : Nat, j < 32 → ll j = zZ W (z6 2 j)) (k : Int × Int) :
    Y5 (kv W) W.self.at_ (zZ W (z6 1 0)) l2 ll k = if (k.1 = 5 ∧ 0 ≤ k.2 ∧ k.2 < (32 : Nat) ∧ qZ W k ≠ 0) ∨ (k.1 = 1 ∧ 40 ≤ k.2 ∧ k.2 < 40 + 32 * (32 : Nat) ∧ qZ W k ≠ 0) then some (qZ W k) else
      if k = (4, 0) ∧ qZ W k ≠ 0 then some (qZ W k) else if k.1 = 1 ∧ 8 ≤ k.2 ∧ k.2 < 40 ∧ qZ W k ≠ 0 then some (qZ W k) else
      if k = (3, 0) ∧ qZ W k ≠ 0 then some (qZ W k) else if k.1 = 1 ∧ 0 ≤ k.2 ∧ k.2 < 8 ∧ qZ W k ≠ 0 then some (qZ W k) else upd (fun _ => none) (2, 0) (some W.self.at_) k := by
  unfold Y5
  rw [leafF_spec W l2 ll _ h2 hl 32 (by omega) k]
  have hdb : (kv W).db = qZ W (4, 0) := rfl
  have hsg : (kv W).sg = qZ W (3, 0) := rfl
  rw [hdb, KR, hsg]
  have e1 : ∀ f, jI (zZ W (z6 1 0)) (yV 1 0) f k = if k.1 = 1 ∧ 8 ≤ k.2 ∧ k.2 < 40 ∧ qZ W k ≠ 0 then some (qZ W k) else f k := by
    intro f
    rw [Wm W _ _ _ (fun j x hx => by
      have hj : j < 32 := by have := (List.getElem?_eq_some_iff.1 hx).1; simpa [zZ] using this
      rw [QJ W _ hj] at hx
      rw [← Option.some.inj hx]; unfold z6 yV; rfl) k]
    rw [show yV 1 0 = 8 from rfl, show ((zZ W (z6 1 0)).length : Int) = 32 from by simp [zZ]]; rfl
  have e2 : ∀ f, jI (kv W).d (yV 0 0) f k = if k.1 = 1 ∧ 0 ≤ k.2 ∧ k.2 < 8 ∧ qZ W k ≠ 0 then some (qZ W k) else f k := by
    intro f
    rw [Wm W _ _ _ (fun j x hx => by
      have hj : j < 8 := by have := (List.getElem?_eq_some_iff.1 hx).1; simpa [kv] using this
      have : (kv W).d[j]? = some (qZ W (1, j)) := by simp [kv, hj]
      rw [this] at hx
      rw [← Option.some.inj hx, show yV 0 0 = 0 from rfl, Int.zero_add]) k]
    rw [show yV 0 0 = 0 from rfl, show ((kv W).d.length : Int) = 8 from by simp [kv]]; rfl
  rw [e1, KR, e2]
theorem loadF_val (W : RS) (l2 : List Int) (ll : Nat → List Int) (h2 : ∀ j : Nat, j < 32 → l2.getD j 0 = qZ W (5, j)) (hl : ∀ j : Nat, j < 32 → ll j = zZ W (z6 2 j)) (k : Int × Int) {v : Int}
    (h : Y5 (kv W) W.self.at_ (zZ W (z6 1 0)) l2 ll k = some v) : v = qZ W k := by
  rw [Jr W l2 ll h2 hl k] at h
  split at h
  · exact (Option.some.inj h).symm
  split at h
  · exact (Option.some.inj h).symm
  split at h
  · exact (Option.some.inj h).symm
  split at h
  · exact (Option.some.inj h).symm
  split at h
  · exact (Option.some.inj h).symm
  by_cases e : k = (2, 0)
  · subst e; rw [wx] at h; exact (Option.some.inj h).symm
  · rw [wI _ _ e] at h; cases h
theorem loadF_spec (W : RS) (l2 : List Int) (ll : Nat → List Int) (h0 : W.self.at_ ≠ 0) (h2 : ∀ j : Nat, j < 32 → l2.getD j 0 = qZ W (5, j)) (hl : ∀ j : Nat, j < 32 → ll j = zZ W (z6 2 j)) (k : Int × Int) :
    Y5 (kv W) W.self.at_ (zZ W (z6 1 0)) l2 ll k ≠ none ↔ qo k ∧ qZ W k ≠ 0 := by
  rw [Jr W l2 ll h2 hl k]
  have hself : qZ W (2, 0) = W.self.at_ := rfl
  constructor
  · intro h
    split at h
    · rename_i c
      rcases c with ⟨a1, a2, a3, a4⟩ | ⟨a1, a2, a3, a4⟩
      · exact ⟨.inr (.inr (.inr (.inr ⟨a1, a2, by push_cast at a3; omega⟩))), a4⟩
      · exact ⟨.inl ⟨a1, by omega, by push_cast at a3; omega⟩, a4⟩
    · split at h
      · rename_i c; exact ⟨by rw [c.1]; exact zI, c.2⟩
      · split at h
        · rename_i c; exact ⟨.inl ⟨c.1, by omega, by omega⟩, c.2.2.2⟩
        · split at h
          · rename_i c; exact ⟨by rw [c.1]; exact zE, c.2⟩
          · split at h
            · rename_i c; exact ⟨.inl ⟨c.1, by omega, by omega⟩, c.2.2.2⟩
            · by_cases e : k = (2, 0)
              · subst e; exact ⟨zy, by rw [hself]; exact h0⟩
              · rw [wI _ _ e] at h; exact absurd rfl h
  · rintro ⟨hk, hne⟩
    rcases qz hk with ⟨i, hi, rfl⟩ | rfl | rfl | rfl | ⟨j, hj, rfl⟩
    · by_cases c1 : 40 ≤ i
      · rw [if_pos (.inr ⟨rfl, c1, by have := hi.2; push_cast; (try dsimp only); omega, hne⟩)]; simp
      · rw [if_neg (by rintro (⟨h, -⟩ | ⟨-, h, -⟩); · simp at h
                       · exact c1 h), if_neg (by simp)]
        by_cases c2 : 8 ≤ i
        · rw [if_pos ⟨rfl, c2, by dsimp only; omega, hne⟩]; simp
        · rw [if_neg (fun h => c2 h.2.1), if_neg (by simp), if_pos ⟨rfl, hi.1, by dsimp only; omega, hne⟩]; simp
    · rw [if_neg (by simp), if_neg (by simp), if_neg (by simp), if_neg (by simp), if_neg (by simp), wx]; simp
    · rw [if_neg (by simp), if_neg (by simp), if_neg (by simp), if_pos ⟨rfl, hne⟩]; simp
    · rw [if_neg (by simp), if_pos ⟨rfl, hne⟩]; simp
    · rw [if_pos (.inl ⟨rfl, hj.1, by push_cast; exact hj.2, hne⟩)]; simp
theorem K1 (D : Int → Option Sec) : gS false D = D := by funext a; rfl
theorem KE {W : RS} {f : Int → Int × Int} (h : ∀ j : Nat, j < 32 → qZ W (f j) = 0) : zZ W f = yq := by
  unfold zZ yq
  rw [List.eq_replicate_iff]
  refine ⟨by simp, fun x hx => ?_⟩
  obtain ⟨j, hj, rfl⟩ := List.mem_map.1 hx
  exact h j (List.mem_range.1 hj)
theorem Inv.whBd {W : RS} {D : Int → Option Sec} {nx : Int} (hI : Inv W D nx) (hnx : nx ≤ 65536) {k : Int × Int} (hk : qo k) : 0 ≤ qZ W k ∧ qZ W k ≤ 65535 := by
  by_cases h : qZ W k = 0
  · omega
  · have := hI.rngA k hk h; omega
theorem Inv.rok {W : RS} {D : Int → Option Sec} {nx : Int} (hI : Inv W D nx) (hnx : nx ≤ 65536) : ROk W := ⟨by rw [hI.num]; omega, by rw [hI.ver]; omega, hI.kind, hI.size, hI.time, fun _ hk => hI.whBd hnx hk⟩
theorem load_cpl {W : RS} {D : Int → Option Sec} {nx : Int} (hI : Inv W D nx) (hnx : nx ≤ 65536) (hp : zf W = []) (h0 : W.self.at_ ≠ 0) :
    ∃ n', Cpl n' W ∧ ∀ (w0 : World) (F : Res) (Dc G : qM) (rv : Value), kJ G → YJ rv Dc D →
      FnT Tryz.prog w0 68 #[.agg (wW ((D W.self.at_).getD Sec.zero)).toArray, .int .i64 W.self.at_, rv] (Dc :: G :: F)
        (fun v' L' => ∃ p' Cn', v' = .tuple #[.pointer (some ⟨p', 0, none⟩), .int .i64 0] ∧ NodeC p' n' Cn' ∧ L' = Cn' :: Dc :: G :: F) := by
  have hnp : ∀ k, qo k → ¬ prR W k := fun k hk h => by
    have := (W7 W k).2 ⟨hk, h⟩; rw [hp] at this; cases this
  have hnone := XV (hnp (2, 0) zy)
  have hgone : W.gone = [] := Classical.byContradiction fun e => hnp _ zy (Z3 (hI.gone e))
  have hrok := hI.rok hnx
  have hx : (kv W).Ok := YQ hrok
  have hself : qZ W (2, 0) = W.self.at_ := rfl
  have hds := hI.disk (2, 0) zy h0 (hnp _ zy)
  rw [hself] at hds
  have hsec : wd W (2, 0) = ZA (kv W) hx := by
    unfold wd; rw [if_neg (by decide), if_neg (by decide), if_neg (by decide), if_neg (by decide), Yx hx]
  have hdsk : ∀ k, qo k → qZ W k ≠ 0 → D (qZ W k) = some (wd W k) := fun k hk h => hI.disk k hk h (hnp k hk)
  have hblk0 : ∀ i, InB i → (W.all i).has = false → qZ W (1, i) = 0 := fun i hi hh => by
    rw [zo]
    refine Classical.byContradiction fun e => ?_
    rw [(hI.has i hi).2 (.inr e)] at hh; cases hh
  have hnok : ∀ k, qo k → k.1 ≠ 1 → k.1 ≠ 2 → qZ W k = 0 → ¬ j8 W k := fun k hk h1 h2 h hkid => (hI.place k hk h1 (fun _ => hkid)).elim (fun e => e h) (hnp k hk)
  have hchild : ∀ k i, qo k → k.1 ≠ 1 → k.1 ≠ 2 → qZ W k = 0 → InB i → wj i = k → qZ W (1, i) = 0 := fun k i hk h1 h2 h hi ha => hblk0 i hi (by
    cases e : (W.all i).has with
    | false => rfl
    | true => exact absurd ⟨i, hi, e, .inr ha⟩ (hnok k hk h1 h2 h))
  have hab1 : ∀ j : Nat, j < 32 → InB (8 + 0 * 32 + j) ∧ wj (8 + 0 * 32 + j) = (3, 0) := fun j hj => ⟨⟨by omega, by omega⟩, WI.2 (by unfold w8; rw [if_neg (by omega), if_neg (by omega), if_pos (by omega)])⟩
  have hab2 : ∀ (i : Int) (j : Nat), 0 ≤ i ∧ i < 32 → j < 32 → InB (40 + i * 32 + j) ∧ wj (40 + i * 32 + j) = (5, i) := fun i j hi hj => ⟨⟨by omega, by omega⟩, WH.2 (by unfold w8; rw [if_neg (by omega), if_neg (by omega), if_neg (by omega), if_pos (by omega)]; exact ⟨rfl, by dsimp only; omega⟩)⟩
  have h10 : (kv W).sg = 0 → zZ W (z6 1 0) = yq := fun e => KE fun j hj => by
    have := hab1 j hj
    exact hchild (3, 0) _ zE (by decide) (by decide) e this.1 this.2
  have h20 : (kv W).db = 0 → zZ W (fun j => (5, j)) = yq := fun e => KE fun j hj => by
    refine Classical.byContradiction fun hne => ?_
    obtain ⟨i, hi, hh, hu⟩ := hI.kid (5, (j : Int)) (jr j hj) (by simp) (by simp) (.inl hne)
    rcases hu with ⟨hu, -⟩ | hu
    · cases hu
    · exact hnok (4, 0) zI (by decide) (by decide) e ⟨i, hi, hh, .inl ⟨rfl, by rw [hu]⟩⟩
  let l2 := zZ W (fun j => (5, j))
  let ll : Nat → List Int := fun i => if i < 32 then zZ W (z6 2 i) else yq
  have hl2 : ∀ j : Nat, j < 32 → l2.getD j 0 = qZ W (5, (j : Int)) := fun j hj => by
    show (zZ W (fun j => (5, j))).getD j 0 = _
    rw [List.getD_eq_getElem?_getD, QJ W _ hj]; rfl
  have hll : ∀ j : Nat, j < 32 → ll j = zZ W (z6 2 j) := fun j hj => if_pos hj
  have hz : j2 yq := ⟨by simp [yq], fun a ha => by rw [yq, List.mem_replicate] at ha; omega⟩
  have h1 : j2 (zZ W (z6 1 0)) := WW hrok xD
  have h2 : j2 l2 := WW hrok jr
  have h3 : ∀ i, j2 (ll i) := fun i => by
    show j2 (if i < 32 then zZ W (z6 2 i) else yq)
    split
    · exact WW hrok (xC ⟨by omega, by omega⟩)
    · exact hz
  refine ⟨Xe (kv W) W.self.at_ (zZ W (z6 1 0)) l2 ll, ?_, ?_⟩
  · have hval := fun k v => loadF_val W l2 ll hl2 hll k (v := v)
    have hiff := loadF_spec W l2 ll h0 hl2 hll
    refine ⟨rfl, rfl, rfl, rfl, rfl, fun k hk => ?_, fun i hi => ?_, fun k hk hk1 => ?_, fun i => rfl, by rw [hgone]; exact List.Perm.refl _, ⟨fun k hk => absurd rfl hk, fun k hk => ((hiff k).1 hk).1, fun k a ha => ?_, fun k hk => absurd rfl hk⟩⟩
    · show (Y5 _ _ _ _ _ k).getD 0 = _
      cases e : Y5 (kv W) W.self.at_ (zZ W (z6 1 0)) l2 ll k with
      | some v => exact hval k v e
      | none =>
        refine Classical.byContradiction fun hne => ?_
        exact (hiff k).2 ⟨hk, fun e2 => hne (by rw [e2]; rfl)⟩ e
    · rw [hnone.1 i hi]; rfl
    · show none ≠ none ↔ _
      rw [hnone.2 k hk hk1]; simp
    · have ha' : Y5 (kv W) W.self.at_ (zZ W (z6 1 0)) l2 ll k = some a := ha
      have hk := (hiff k).1 (by rw [ha']; simp)
      have := hI.rngA k hk.1 hk.2
      rw [hval k a ha']; omega
  · intro w0 F Dc G rv hg hr
    rw [hds, hsec]
    exact load_ok G Dc hg (kv W) hx hI.size.2 W.self.at_ rv D hr (zZ W (z6 1 0)) l2 ll h1 h10
      (fun e => by
        have := hdsk (3, 0) zE e
        rw [show (kv W).sg = qZ W (3, 0) from rfl, this]
        unfold wd; rw [if_neg (by decide), if_neg (by decide), if_pos rfl, Qz h1])
      h2 h20
      (fun e => by
        have := hdsk (4, 0) zI e
        rw [show (kv W).db = qZ W (4, 0) from rfl, this]
        unfold wd; rw [if_neg (by decide), if_neg (by decide), if_neg (by decide), if_pos rfl]; exact congrArg some (Qz h2))
      h3
      (fun i e => by
        by_cases hi : i < 32
        · rw [hll i hi]
          rw [hl2 i hi] at e
          refine KE fun j hj => ?_
          have := hab2 i j ⟨by omega, by omega⟩ hj
          exact hchild (5, (i : Int)) _ (jr i hi) (by simp) (by simp) e this.1 this.2
        · exact if_neg hi)
      (fun i hi e => by
        rw [hl2 i hi] at e ⊢
        rw [hdsk (5, (i : Int)) (jr i hi) e]
        unfold wd; rw [if_neg (by simp), if_pos rfl]
        exact congrArg some ((Qz (h3 i)) ▸ (by rw [hll i hi])))
def kR (i : Int) (k : Int × Int) : Prop := (k = (4, 0) ∧ (wj i).1 = 5) ∨ wj i = k
def Wb (W : RS) (H : Int → Prop) (k : Int × Int) : Prop := ∃ i, InB i ∧ (W.all i).has = true ∧ ¬ H i ∧ kR i k
def y5 (W : RS) (H : Int → Prop) (S : Int × Int → Prop) (k : Int × Int) : Prop := (k.1 = 1 ∧ H k.2) ∨ (k.1 ≠ 1 ∧ k.1 ≠ 2 ∧ S k ∧ ¬ Wb W H k)
def Qr (H : Int → Prop) (k : Int × Int) : Prop := ∃ i, H i ∧ (k = (2, 0) ∨ kR i k)
structure TS (W : RS) (H : Int → Prop) (S : Int × Int → Prop) (w : Int × Int → Int) (s : Int × Int → Prop) (g : List Int) : Prop where
  w0 : ∀ k, qo k → y5 W H S k → w k = 0
  w1 : ∀ k, qo k → ¬ y5 W H S k → w k = qZ W k
  s : ∀ k, qo k → k.1 ≠ 1 → (s k ↔ ¬ y5 W H S k ∧ (wl W k = true ∨ Qr H k))
  gn : g.Nodup
  gm : ∀ a, a ∈ g ↔ (a ∈ W.gone ∨ ∃ k, qo k ∧ y5 W H S k ∧ qZ W k = a ∧ a ≠ 0)
theorem ju {W : RS} {H : Int → Prop} {S : Int × Int → Prop} {i : Int} : y5 W H S (1, i) ↔ H i := by
  unfold y5
  constructor
  · rintro (h | h)
    · exact h.2
    · exact absurd rfl h.1
  · intro h; exact .inl ⟨rfl, h⟩
theorem j6 {W : RS} {H : Int → Prop} {S : Int × Int → Prop} {k : Int × Int} (h1 : k.1 ≠ 1) : y5 W H S k ↔ (k.1 ≠ 2 ∧ S k ∧ ¬ Wb W H k) := by
  unfold y5
  constructor
  · rintro (h | h)
    · exact absurd h.1 h1
    · exact h.2
  · intro h; exact .inr ⟨h1, h⟩
theorem ZN {g : List Int} {a : Int} (h : g.Nodup) (ha : a ∉ g) : (g ++ [a]).Nodup := by
  rw [List.nodup_append]
  exact ⟨h, by simp, fun x hx y hy e => by rw [List.mem_singleton] at hy; exact ha (by rw [← hy, ← e]; exact hx)⟩
section
variable {W : RS} {D : Int → Option Sec} {nx : Int} {H : Int → Prop} {S : Int × Int → Prop} {w w' : Int × Int → Int} {s s' : Int × Int → Prop} {g g' : List Int}
theorem TS.fresh (hI : Inv W D nx) (hT : TS W H S w s g) {k : Int × Int} (hk : qo k) (hn : ¬ y5 W H S k) (h0 : w k ≠ 0) : w k ∉ g := by
  rw [hT.w1 k hk hn] at h0 ⊢
  intro hm
  rcases (hT.gm _).1 hm with h | ⟨q, hq, hl, e, -⟩
  · exact hI.gdj _ h k hk rfl
  · exact hn ((hI.inj k q hk hq h0 e.symm) ▸ hl)
theorem Kf {i : Int} {k : Int × Int} (hu : ¬ kR i k) : Wb W (fun j => H j ∨ j = i) k ↔ Wb W H k := by
  unfold Wb
  constructor
  · rintro ⟨j, h1, h2, h3, h4⟩; exact ⟨j, h1, h2, fun h => h3 (.inl h), h4⟩
  · rintro ⟨j, h1, h2, h3, h4⟩; exact ⟨j, h1, h2, fun h => h.elim h3 (fun e => hu (e ▸ h4)), h4⟩
theorem TS.hole (hI : Inv W D nx) (hT : TS W H S w s g) {i : Int} (hi : InB i) (hn : ¬ H i) (hS : ∀ p, qo p → p.1 ≠ 1 → p.1 ≠ 2 → S p → ¬ kR i p)
    (hw : ∀ k, qo k → w' k = if k = (1, i) then 0 else w k) (hs : ∀ k, qo k → k.1 ≠ 1 → (s' k ↔ s k ∨ k = (2, 0) ∨ kR i k)) (hg : g' = if w (1, i) ≠ 0 then g ++ [w (1, i)] else g) :
    TS W (fun j => H j ∨ j = i) S w' s' g' := by
  have hl : ∀ k, qo k → k.1 ≠ 1 → (y5 W (fun j => H j ∨ j = i) S k ↔ y5 W H S k) := by
    intro k hk h1
    rw [j6 h1, j6 h1]
    constructor
    · rintro ⟨h2, h3, h4⟩; exact ⟨h2, h3, fun h => h4 ((Kf (hS k hk h1 h2 h3)).2 h)⟩
    · rintro ⟨h2, h3, h4⟩; exact ⟨h2, h3, fun h => h4 ((Kf (hS k hk h1 h2 h3)).1 h)⟩
  have hlb : ∀ j, y5 W (fun j => H j ∨ j = i) S (1, j) ↔ (y5 W H S (1, j) ∨ j = i) := fun j => by rw [ju, ju]
  have hni : ¬ y5 W H S (1, i) := fun h => hn (ju.1 h)
  refine ⟨fun k hk h => ?_, fun k hk h => ?_, fun k hk h1 => ?_, ?_, fun a => ?_⟩
  · rw [hw k hk]
    by_cases e : k = (1, i)
    · rw [if_pos e]
    · rw [if_neg e]
      refine hT.w0 k hk ?_
      by_cases h1 : k.1 = 1
      · obtain ⟨k1, k2⟩ := k
        obtain rfl : k1 = 1 := h1
        exact ((hlb k2).1 h).resolve_right (fun e2 => e (by rw [e2]))
      · exact (hl k hk h1).1 h
  · rw [hw k hk]
    by_cases e : k = (1, i)
    · exact absurd (by rw [e]; exact (hlb i).2 (.inr rfl)) h
    · rw [if_neg e]
      refine hT.w1 k hk (fun h2 => h ?_)
      by_cases h1 : k.1 = 1
      · obtain ⟨k1, k2⟩ := k
        obtain rfl : k1 = 1 := h1
        exact (hlb k2).2 (.inl h2)
      · exact (hl k hk h1).2 h2
  · rw [hs k hk h1, hT.s k hk h1, hl k hk h1]
    have hm : Qr (fun j => H j ∨ j = i) k ↔ (Qr H k ∨ k = (2, 0) ∨ kR i k) := by
      unfold Qr
      constructor
      · rintro ⟨j, h | rfl, h2⟩
        · exact .inl ⟨j, h, h2⟩
        · exact .inr h2
      · rintro (⟨j, h, h2⟩ | h2)
        · exact ⟨j, .inl h, h2⟩
        · exact ⟨i, .inr rfl, h2⟩
    rw [hm]
    constructor
    · rintro (⟨h2, h3⟩ | h2)
      · exact ⟨h2, h3.imp id .inl⟩
      · refine ⟨fun h3 => ?_, .inr (.inr h2)⟩
        have h4 := (j6 h1).1 h3
        rcases h2 with e | hu
        · exact h4.1 (by rw [e])
        · exact hS k hk h1 h4.1 h4.2.1 hu
    · rintro ⟨h2, h3 | h3 | h3⟩
      · exact .inl ⟨h2, .inl h3⟩
      · exact .inl ⟨h2, .inr h3⟩
      · exact .inr h3
  · rw [hg]; split
    · rename_i h0; exact ZN hT.gn (hT.fresh hI (zz hi) hni h0)
    · exact hT.gn
  · have hwi := hT.w1 (1, i) (zz hi) hni
    have e1 : a ∈ g' ↔ (a ∈ g ∨ (a = qZ W (1, i) ∧ a ≠ 0)) := by
      rw [hg, hwi]
      by_cases h0 : qZ W (1, i) ≠ 0
      · rw [if_pos h0, List.mem_append, List.mem_singleton]
        constructor
        · rintro (h | h)
          · exact .inl h
          · exact .inr ⟨h, h ▸ h0⟩
        · rintro (h | h)
          · exact .inl h
          · exact .inr h.1
      · rw [if_neg h0]
        constructor
        · exact .inl
        · rintro (h | h)
          · exact h
          · exact absurd h.1.symm (fun e => h0 (by rw [e]; exact h.2))
    rw [e1, hT.gm a]
    constructor
    · rintro ((h | ⟨k, hk, hlk, e, h0⟩) | ⟨e, h0⟩)
      · exact .inl h
      · refine .inr ⟨k, hk, ?_, e, h0⟩
        by_cases h1 : k.1 = 1
        · obtain ⟨k1, k2⟩ := k
          obtain rfl : k1 = 1 := h1
          exact (hlb k2).2 (.inl hlk)
        · exact (hl k hk h1).2 hlk
      · exact .inr ⟨(1, i), zz hi, (hlb i).2 (.inr rfl), e.symm, h0⟩
    · rintro (h | ⟨k, hk, hlk, e, h0⟩)
      · exact .inl (.inl h)
      · by_cases h1 : k.1 = 1
        · obtain ⟨k1, k2⟩ := k
          obtain rfl : k1 = 1 := h1
          rcases (hlb k2).1 hlk with h | rfl
          · exact .inl (.inr ⟨_, hk, h, e, h0⟩)
          · exact .inr ⟨e.symm, h0⟩
        · exact .inl (.inr ⟨k, hk, (hl k hk h1).1 hlk, e, h0⟩)
theorem TS.sets (hT : TS W H S w s g) {S' : Int × Int → Prop} (h : ∀ k, qo k → (y5 W H S' k ↔ y5 W H S k)) : TS W H S' w s g := by
  refine ⟨fun k hk hl => hT.w0 k hk ((h k hk).1 hl), fun k hk hl => hT.w1 k hk (fun e => hl ((h k hk).2 e)), fun k hk h1 => by rw [hT.s k hk h1, h k hk], hT.gn, fun a => ?_⟩
  rw [hT.gm a]
  refine or_congr Iff.rfl ⟨?_, ?_⟩
  · rintro ⟨k, hk, hl, e⟩; exact ⟨k, hk, (h k hk).2 hl, e⟩
  · rintro ⟨k, hk, hl, e⟩; exact ⟨k, hk, (h k hk).1 hl, e⟩
theorem TS.keep (hT : TS W H S w s g) {q : Int × Int} (hq : Wb W H q) : TS W H (fun k => S k ∨ k = q) w s g := by
  refine hT.sets fun k hk => ?_
  unfold y5
  refine or_congr Iff.rfl ⟨?_, ?_⟩
  · rintro ⟨h1, h2, h3 | h3, h4⟩
    · exact ⟨h1, h2, h3, h4⟩
    · exact absurd (h3 ▸ hq) h4
  · rintro ⟨h1, h2, h3, h4⟩; exact ⟨h1, h2, .inl h3, h4⟩
theorem TS.drop (hT : TS W H S w s g) {P : Int × Int → Prop} (hq : ∀ q, P q → Wb W H q) : TS W H (fun k => S k ∧ ¬ P k) w s g := by
  refine hT.sets fun k hk => ?_
  unfold y5
  refine or_congr Iff.rfl ⟨?_, ?_⟩
  · rintro ⟨h1, h2, h3, h4⟩; exact ⟨h1, h2, h3.1, h4⟩
  · rintro ⟨h1, h2, h3, h4⟩; exact ⟨h1, h2, ⟨h3, fun h => h4 (hq k h)⟩, h4⟩
theorem TS.lose (hI : Inv W D nx) (hT : TS W H S w s g) {q : Int × Int} (hq : qo q) (hq1 : q.1 ≠ 1) (hq2 : q.1 ≠ 2) (hnk : ¬ Wb W H q)
    (hw : ∀ k, qo k → w' k = if k = q then 0 else w k) (hs : ∀ k, qo k → k.1 ≠ 1 → (s' k ↔ s k ∧ k ≠ q)) (hg : g' = if w q ≠ 0 then g ++ [w q] else g) :
    TS W H (fun k => S k ∨ k = q) w' s' g' := by
  have hl : ∀ k, qo k → (y5 W H (fun k => S k ∨ k = q) k ↔ (y5 W H S k ∨ k = q)) := by
    intro k hk
    unfold y5
    constructor
    · rintro (h | ⟨h1, h2, h3 | h3, h4⟩)
      · exact .inl (.inl h)
      · exact .inl (.inr ⟨h1, h2, h3, h4⟩)
      · exact .inr h3
    · rintro ((h | ⟨h1, h2, h3, h4⟩) | h)
      · exact .inl h
      · exact .inr ⟨h1, h2, .inl h3, h4⟩
      · subst h; exact .inr ⟨hq1, hq2, .inr rfl, hnk⟩
  refine ⟨fun k hk h => ?_, fun k hk h => ?_, fun k hk h1 => ?_, ?_, fun a => ?_⟩
  · rw [hw k hk]; split
    · rfl
    · rename_i e; exact hT.w0 k hk (((hl k hk).1 h).resolve_right e)
  · rw [hw k hk, if_neg (fun e => h ((hl k hk).2 (.inr e)))]
    exact hT.w1 k hk (fun e => h ((hl k hk).2 (.inl e)))
  · rw [hs k hk h1, hT.s k hk h1, hl k hk]
    constructor
    · rintro ⟨⟨h2, h3⟩, h4⟩; exact ⟨fun h => h.elim h2 h4, h3⟩
    · rintro ⟨h2, h3⟩; exact ⟨⟨fun h => h2 (.inl h), h3⟩, fun h => h2 (.inr h)⟩
  · rw [hg]; split
    · rename_i h0; exact ZN hT.gn (hT.fresh hI hq (fun h => h0 (hT.w0 q hq h)) h0)
    · exact hT.gn
  · have e1 : a ∈ g' ↔ (a ∈ g ∨ (a = w q ∧ a ≠ 0)) := by
      rw [hg]
      by_cases h0 : w q ≠ 0
      · rw [if_pos h0, List.mem_append, List.mem_singleton]
        constructor
        · rintro (h | h)
          · exact .inl h
          · exact .inr ⟨h, h ▸ h0⟩
        · rintro (h | h)
          · exact .inl h
          · exact .inr h.1
      · rw [if_neg h0]
        constructor
        · exact .inl
        · rintro (h | h)
          · exact h
          · exact absurd h.1.symm (fun e => h0 (by rw [e]; exact h.2))
    rw [e1, hT.gm a]
    constructor
    · rintro ((h | ⟨k, hk, hlk, e, h0⟩) | ⟨e, h0⟩)
      · exact .inl h
      · exact .inr ⟨k, hk, (hl k hk).2 (.inl hlk), e, h0⟩
      · have hn : ¬ y5 W H S q := fun h => h0 (e.trans (hT.w0 q hq h))
        exact .inr ⟨q, hq, (hl q hq).2 (.inr rfl), by rw [e, hT.w1 q hq hn], h0⟩
    · rintro (h | ⟨k, hk, hlk, e, h0⟩)
      · exact .inl (.inl h)
      · by_cases hl2 : y5 W H S k
        · exact .inl (.inr ⟨k, hk, hl2, e, h0⟩)
        · have := ((hl k hk).1 hlk).resolve_left hl2
          subst this
          exact .inr ⟨by rw [hT.w1 _ hk hl2]; exact e.symm, h0⟩
end
end Go.Proofs.YtjikpomndbkfgaaGreatDoor
