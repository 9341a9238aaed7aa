/- NodeFails: for every input that the statement's row lets in the law answers true and its arguments read as before; conditions: none beyond the row's own (part 3; joined, pruned and shortened by a program of the prover's own: names of two letters stand for longer ones.) -/
import Derived.Test.YtjikpomndbkfgaaGreatDoorFA2
import Derived.Laws.Externs
import Derived.MapKept
set_option linter.all false
set_option linter.unusedVariables false
set_option linter.unusedSimpArgs false
set_option linter.unusedSectionVars false
namespace Go.Proofs.YtjikpomndbkfgaaGreatDoor
open Go Go.Sx Go.Nd
set_option maxRecDepth 10000
section
variable {w0 : World} {L F : Res}
def srt (xs : List Int) : List Int := xs.mergeSort (fun a b => decide (a ≤ b))
structure jJ (w0 : World) : Prop where
  sort : ∀ (F : Res) (u : Value) (n : Nat) (xs : List Int) (C : qV), SlC 3 1 u n (iV xs) C → xs.length = n → n ≤ 1000000 →
    FnT Tryz.prog w0 51 #[u] (C :: F) (fun v L' => v = .tuple #[] ∧ ∃ C', SlC 3 1 u n (iV (srt xs)) C' ∧ L' = C' :: F)
  keys : ∀ (F : Res) (b md : Nat) (e : TypeId) (fr : Nat × Nat) (od : Obj) (f : Int → Option Sec), MapF (Value.int .i64) jH f od → (∀ k, f k ≠ none → 0 ≤ k ∧ k < 1064) →
    FnT Tryz.prog w0 49 #[.func (.func 90) [].toArray [.pointer (some ⟨b, 0, none⟩)].toArray] ([(b, .cells [Value.map (some md)].toArray e fr)] :: [(md, od)] :: F)
      (fun v L' => ∃ ks C, SlC 3 1 v ks.length (iV ks) C ∧ ks.Nodup ∧ (∀ k, k ∈ ks ↔ f k ≠ none) ∧ L' = C :: [(b, .cells [Value.map (some md)].toArray e fr)] :: [(md, od)] :: F)
theorem mapsKeys_ok (md : Nat) : FnT Tryz.prog w0 57 #[.map (some md)] F (fun v L' => ∃ b, v = .func (.func 90) [].toArray [.pointer (some ⟨b, 0, none⟩)].toArray ∧ L' = [(b, .cells [Value.map (some md)].toArray 42 (0, 0))] :: F) := by
  refine qh (E0 := [(0, _)]) (N := 4) Tryz.func57 rfl rfl rfl rfl ?_
  refine qP <| qG (wq rfl) ?_
  rintro t1 _ ⟨b1, rfl, rfl⟩
  refine qD rfl <| qo <| q9 (wx rfl rfl) <| qD rfl <| qF <| qz <| zn (.inl rfl) rfl (qu rfl) ?_
  exact ⟨_, rfl, rfl⟩
structure NOk (n : NS) : Prop where
  data : ∀ k, n.data k ≠ none → 0 ≤ k ∧ k < 1064
  at1 : ∀ k, n.at_ k ≠ none → (k.1 = 1 ∧ 0 ≤ k.2 ∧ k.2 < 1064) ∨ k = (2, 0) ∨ k = (3, 0) ∨ k = (4, 0) ∨ (k.1 = 5 ∧ 0 ≤ k.2 ∧ k.2 < 32)
  at2 : ∀ k a, n.at_ k = some a → 1 ≤ a ∧ a ≤ 65535
  stale : ∀ k, n.stale k ≠ none → (k.1 = 1 ∧ 0 ≤ k.2 ∧ k.2 < 1064) ∨ k = (2, 0) ∨ k = (3, 0) ∨ k = (4, 0) ∨ (k.1 = 5 ∧ 0 ≤ k.2 ∧ k.2 < 32)
def jI (n : NS) : List Int := ((List.range 1064).map (fun i : Nat => (i : Int))).filter (fun i => decide (xM n i))
theorem Xg {K V : Type} [DecidableEq K] {al : List (K × V)} {vis : List Nat} {i : Nat} {p : K × V} (hn : (zU al).Nodup) (hp : al[i]? = some p) (hi : i ∉ vis) : ¬ ko al vis p.1 := by
  rintro ⟨j, hj, v, hv⟩
  have h1 : (zU al)[i]? = (zU al)[j]? := by simp [zU, hp, hv]
  have hlt : i < (zU al).length := by have := (List.getElem?_eq_some_iff.1 hp).1; simpa [zU] using this
  exact hi ((List.getElem?_inj hlt hn).1 h1 ▸ hj)
theorem xv (m : Nat) : ((List.range m).map (fun i : Nat => (i : Int))).Pairwise (· < ·) := by
  rw [List.pairwise_map]
  exact List.pairwise_lt_range.imp (fun h => by omega)
theorem srt_eq {xs ys : List Int} (hx : xs.Nodup) (hy : ys.Pairwise (· < ·)) (h : ∀ k, k ∈ xs ↔ k ∈ ys) : srt xs = ys := by
  have hyn : ys.Nodup := hy.imp (fun h => Int.ne_of_lt h)
  have hp : (srt xs).Perm ys := (List.mergeSort_perm xs _).trans ((List.perm_ext_iff_of_nodup hx hyn).2 h)
  have hs : (srt xs).Pairwise (fun a b => decide (a ≤ b) = true) := List.pairwise_mergeSort (fun a b c h1 h2 => by simp at *; omega) (fun a b => by simp; omega) xs
  exact List.Perm.eq_of_pairwise (fun a b _ _ h1 h2 => by simp at h1 h2; omega) hs (hy.imp (fun h => by simp; omega)) hp
theorem mem_idxN {n : NS} (h : NOk n) (k : Int) : k ∈ jI n ↔ xM n k := by
  unfold jI
  rw [List.mem_filter, List.mem_map]
  simp only [List.mem_range, decide_eq_true_eq]
  constructor
  · exact fun h => h.2
  · intro hk
    refine ⟨?_, hk⟩
    have : 0 ≤ k ∧ k < 1064 := by
      rcases hk with hk | hk
      · exact h.data k (fun e => by rw [e] at hk; cases hk)
      · have := h.at1 (1, k) (fun e => by rw [e] at hk; exact hk rfl)
        simp at this; omega
    exact ⟨k.toNat, by omega, by omega⟩
theorem Yu {xs : List Int} (h : xs.Nodup) (hr : ∀ k ∈ xs, 0 ≤ k ∧ k < 1064) : xs.length ≤ 1064 := by
  have := yS (l2 := (List.range 1064).map (fun i : Nat => (i : Int))) h (fun x hx => by
    have := hr x hx
    exact List.mem_map.2 ⟨x.toNat, List.mem_range.2 (by omega), by omega⟩)
  simpa using this
theorem x3 {m n : Nat} {mo o : Obj} {vis : List Nat} {i : Nat} (h : IterOk m mo n (vis ++ [i]) o) : n - (vis ++ [i]).length < n - vis.length := by
  have h1 := yS (l2 := List.range n) h.nodup (fun x hx => List.mem_range.2 (h.lt x hx))
  simp at h1 ⊢; omega
theorem Z5 (xs : List Int) : (srt xs).length = xs.length := List.length_mergeSort xs
section
variable {n : NS} {al : List ((Int × Int) × Int)} {oa : Obj} {out : List Int} {vis : List Nat} {i : Nat} {q : (Int × Int) × Int}
theorem Vn (hok : NOk n) (hal : MapOk yO (Value.int .i64) al oa) (hag : ∀ k, yB al k = n.at_ k) {k : Int} (h : n.data k ≠ none ∨ ko al vis (1, k)) : 0 ≤ k ∧ k < 1064 := by
  rcases h with h | ⟨j, _, v, hv⟩
  · exact hok.data k h
  · have := hok.at1 (1, k) (by rw [← hag, xJ hal.nodup (List.mem_of_getElem? hv)]; simp)
    simp at this; omega
theorem Zr (hq : al[i]? = some q) (hmem : ∀ k, k ∈ out ↔ n.data k ≠ none ∨ ko al vis (1, k)) (h : ¬ q.1.1 = 1 ∨ (n.data q.1.2).isSome = true) : ∀ k, k ∈ out ↔ n.data k ≠ none ∨ ko al (vis ++ [i]) (1, k) := fun k => by
  rw [hmem, kG hq]
  constructor
  · rintro (h | h)
    · exact .inl h
    · exact .inr (.inl h)
  · rintro (h1 | h1 | h1)
    · exact .inl h1
    · exact .inr h1
    · rcases h with h | h
      · exact absurd (by rw [← h1]) h
      · refine .inl (fun e => ?_)
        rw [← h1, e] at h; cases h
theorem out_mem (hq : al[i]? = some q) (hmem : ∀ k, k ∈ out ↔ n.data k ≠ none ∨ ko al vis (1, k)) (h : n.data q.1.2 = none) (h1 : q.1.1 = 1) : ∀ k, k ∈ out ++ [q.1.2] ↔ n.data k ≠ none ∨ ko al (vis ++ [i]) (1, k) := fun k => by
  rw [List.mem_append, hmem, kG hq, List.mem_singleton, or_assoc]
  have : (1, k) = q.1 ↔ k = q.1.2 := by
    constructor
    · intro e; rw [← e]
    · intro e; rw [e]; exact Prod.ext h1.symm rfl
  rw [this]
theorem out_push (hal : MapOk yO (Value.int .i64) al oa) (hq : al[i]? = some q) (hni : ¬ i ∈ vis) (hnd : out.Nodup) (hmem : ∀ k, k ∈ out ↔ n.data k ≠ none ∨ ko al vis (1, k)) (h : n.data q.1.2 = none) (h1 : q.1.1 = 1) : (out ++ [q.1.2]).Nodup := by
  rw [List.nodup_append]
  refine ⟨hnd, by simp, fun a ha b hb => ?_⟩
  obtain rfl := List.mem_singleton.1 hb
  rintro rfl
  rcases (hmem _).1 ha with h2 | h2
  · exact h2 h
  · refine Xg hal.nodup hq hni ?_
    have : q.1 = (1, q.1.2) := Prod.ext h1 rfl
    rw [this]; exact h2
theorem idx_eq (hok : NOk n) (hal : MapOk yO (Value.int .i64) al oa) (hag : ∀ k, yB al k = n.at_ k) (hnd : out.Nodup) (hmem : ∀ k, k ∈ out ↔ n.data k ≠ none ∨ ko al vis (1, k)) (hf : ∀ k, ko al vis k ↔ ∃ v, yB al k = some v) : srt out = jI n := by
  refine srt_eq hnd ?_ (fun k => ?_)
  · exact (xv 1064).filter _
  · rw [hmem, mem_idxN hok, hf, hag]
    unfold xM
    constructor
    · rintro (h | ⟨v, hv⟩)
      · left; cases hd : n.data k with
        | none => exact absurd hd h
        | some s => rfl
      · right; rw [hv]; have := hok.at2 _ _ hv; simp; omega
    · rintro (h | h)
      · left; intro e; rw [e] at h; cases h
      · right; cases hv : n.at_ (1, k) with
        | none => rw [hv] at h; exact absurd rfl h
        | some v => exact ⟨v, rfl⟩
end
theorem xS (H : jJ w0) (p : Nat) (n : NS) (Cn : qV) (hn : NodeC p n Cn) (hok : NOk n) :
    FnT Tryz.prog w0 22 #[.pointer (some ⟨p, 0, none⟩)] (Cn :: F) (fun v L' => ∃ C', SlC 3 1 v (jI n).length (iV (jI n)) C' ∧ L' = C' :: Cn :: F) := by
  obtain ⟨ma, md, ms, oa, od, os, u, C, hM, hCn⟩ := hn.eq
  unfold zI at hCn
  obtain ⟨al, hal, hag⟩ := hM.a
  refine FnT.pre (L' := [(p, .cells [.int .u32 n.num, .int .u32 n.ver, .int .i64 n.kind, .int .i64 n.size, .int .u32 n.time, .map (some ma), .map (some md), .map (some ms), u].toArray 90 (0, 0))] :: [(ma, oa)] :: [(md, od)] :: [(ms, os)] :: C :: F) ?_ (we (by rw [hCn]; simp))
  refine qh (E0 := [(0, _)]) (N := 47) Tryz.func22 rfl rfl rfl rfl ?_
  refine qP <| qD rfl <| qo <| qB rfl <| q9 (qQ rfl) <| q9 (qA rfl) <| q9 (qH rfl rfl) <| qG (qx rfl (mapsKeys_ok md)) ?_
  rintro t11 _ ⟨bk, rfl, rfl⟩
  refine qG (qx rfl (k0 ([(bk, .cells [Value.map (some md)].toArray 42 (0, 0))]) ([(md, od)]) (H.keys _ bk md 42 (0, 0) od n.data hM.d hok.data))) ?_
  rintro t12 _ ⟨ks, Ck, hks, hnd, hmem, rfl⟩
  refine qD rfl <| qF <| qO <| qP <| qB rfl <| q9 (qQ rfl) <| q9 (qA rfl) <| q9 (qH rfl rfl) <| qG (xE (r := ma) rfl hal) ?_
  rintro t17 _ ⟨it, io, rfl, hio, rfl⟩
  refine qF <| qg <| wV (Γ := {pΓ : (List Nat) × (Obj) × (Value) × (qV) × (List Int) // (fun (vis : List Nat) (io : Obj) (uo : Value) (Co : qV) (out : List Int) => IterOk ma oa al.length vis io ∧ SlC 3 1 uo out.length (iV out) Co ∧ out.Nodup ∧ (∀ k, k ∈ out ↔ n.data k ≠ none ∨ ko al vis (1, k))) pΓ.1 pΓ.2.1 pΓ.2.2.1 pΓ.2.2.2.1 pΓ.2.2.2.2}) (fun g => (fun (vis : List Nat) (io : Obj) (uo : Value) (Co : qV) (out : List Int) => [(0, .pointer (some ⟨p, 0, none⟩)), (3, uo), (17, .pointer (some ⟨it, 0, none⟩))]) g.1.1 g.1.2.1 g.1.2.2.1 g.1.2.2.2.1 g.1.2.2.2.2) (fun g => (fun (vis : List Nat) (io : Obj) (uo : Value) (Co : qV) (out : List Int) => [(it, io)] :: Co :: [(p, .cells [.int .u32 n.num, .int .u32 n.ver, .int .i64 n.kind, .int .i64 n.size, .int .u32 n.time, .map (some ma), .map (some md), .map (some ms), u].toArray 90 (0, 0))] :: [(ma, oa)] :: [(md, od)] :: [(ms, os)] :: C :: F) g.1.1 g.1.2.1 g.1.2.2.1 g.1.2.2.2.1 g.1.2.2.2.2) (fun g => (fun (vis : List Nat) (io : Obj) (uo : Value) (Co : qV) (out : List Int) => al.length - vis.length) g.1.1 g.1.2.1 g.1.2.2.1 g.1.2.2.2.1 g.1.2.2.2.2) ⟨([], io, t12, Ck, ks), by dsimp only; exact ⟨hio, hks, hnd, fun k => by rw [hmem]; exact ⟨fun h => .inl h, fun h => h.resolve_right Wa⟩⟩⟩ (qX _) ?_
  rintro ⟨⟨vis, io, uo, Co, out⟩, hloop⟩
  replace hloop : IterOk ma oa al.length vis io ∧ SlC 3 1 uo out.length (iV out) Co ∧ out.Nodup ∧ (∀ k, k ∈ out ↔ n.data k ≠ none ∨ ko al vis (1, k)) := hloop
  obtain ⟨hio, hsl, hnd, hmem⟩ := hloop
  show Tr _ _ _ ([(0, .pointer (some ⟨p, 0, none⟩)), (3, uo), (17, .pointer (some ⟨it, 0, none⟩))]) ([(it, io)] :: Co :: [(p, .cells [.int .u32 n.num, .int .u32 n.ver, .int .i64 n.kind, .int .i64 n.size, .int .u32 n.time, .map (some ma), .map (some md), .map (some ms), u].toArray 90 (0, 0))] :: [(ma, oa)] :: [(md, od)] :: [(ms, os)] :: C :: F) _ _
  refine qP <| qG (xc (r := ma) (ob := oa) (vis := vis) rfl (fun w hw => Own.get hw (inferInstance : At _ ma oa _)) hal hio) ?_
  rintro t18 _ (⟨rfl, hfin, rfl⟩ | ⟨i, q, io', rfl, hq, hni, hio', rfl⟩)
  ·
   refine q9 (qi rfl rfl) <| qF <| qO <| wU rfl <| wb <| qr <| qt <| qj <| qI <| qO ?_
   have hlen := Yu hnd (fun k hk => Vn hok hal hag ((hmem k).1 hk))
   have hsrt : srt out = jI n := idx_eq hok hal hag hnd hmem (fun k => Qk hio hfin k)
   refine qK <| qB rfl <| qG (qx rfl (wc (Co) (H.sort _ uo out.length out Co hsl rfl (by omega)))) ?_
   rintro t45 _ ⟨rfl, C', hs', rfl⟩
   refine qo <| qB rfl <| qD rfl <| qT ?_
   rw [hsrt] at hs'
   refine zM (qX (C' :: [(p, .cells [.int .u32 n.num, .int .u32 n.ver, .int .i64 n.kind, .int .i64 n.size, .int .u32 n.time, .map (some ma), .map (some md), .map (some ms), u].toArray 90 (0, 0))] :: [(ma, oa)] :: [(md, od)] :: [(ms, os)] :: C :: F)) <| zM (we (L' := C' :: Cn :: F) (by rw [hCn]; simp)) ?_
   refine qI <| qz <| zn (.inl rfl) rfl (qu rfl) ?_
   exact ⟨C', by rw [← hsrt, Z5]; rw [← hsrt] at hs'; exact hs', rfl⟩
  ·
   refine q9 (qi rfl rfl) <| qF <| qO <| zL rfl <| qZ <| qI <| qg <| qP <| q9 (xG (r := ma) (ob := oa) (vis := vis) rfl (fun w hw => Own.get hw (inferInstance : At _ ma oa _)) hal hio' hq) ?_
   refine q9 (qi rfl rfl) <| qG (qn) ?_
   rintro t4 _ ⟨b4, rfl, rfl⟩
   refine qS (wj (vs := [.int .i64 q.1.1, .int .i64 q.1.2]) rfl rfl rfl rfl) <| qF <| zb (Γ := {pΓ : (Unit) // (fun (x : Unit) => True) pΓ}) (fun g => (fun (x : Unit) => [(0, .pointer (some ⟨p, 0, none⟩)), (3, uo), (4, .pointer (some ⟨b4, 0, none⟩)), (6, .bool (n.data q.1.2).isSome), (17, .pointer (some ⟨it, 0, none⟩))]) g.1) (fun g => (fun (x : Unit) => [(b4, .cells [Value.int .i64 q.1.1, Value.int .i64 q.1.2].toArray 100 (0, 0))] :: [(it, io')] :: Co :: [(p, .cells [.int .u32 n.num, .int .u32 n.ver, .int .i64 n.kind, .int .i64 n.size, .int .u32 n.time, .map (some ma), .map (some md), .map (some ms), u].toArray 90 (0, 0))] :: [(ma, oa)] :: [(md, od)] :: [(ms, os)] :: C :: F) g.1) ?_ ?_
   ·
    refine yT w8 (show TrS _ _ _ _ [false, false, false, false, false, false, false, false, false, false, false, false, false] _ _ _ from ?_)
    refine qJ 0 rfl rfl rfl (wP rfl) <| qJ 1 rfl rfl rfl (zw rfl) <| qJ 2 rfl rfl rfl (wn rfl) <| qJ 4 rfl rfl rfl (wn rfl) <| xX (i := 3) (j := 5) (k := 10) (by kernel_rfl) rfl ?_ ?_ ?_
    ·
     refine qe rfl rfl rfl (qH rfl rfl) <| wy (i := 5) (j := 10) (by kernel_rfl) rfl ?_ ?_
     ·
      refine qe rfl rfl rfl (qH rfl rfl) <| wy (i := 6) (j := 10) (by kernel_rfl) rfl ?_ ?_
      ·
       refine qe rfl rfl rfl (yr (z := Sec.zero) (q := q.1.2) rfl rfl hM.d) <| qJ 7 rfl rfl rfl (wP rfl) <| qJ 8 rfl rfl rfl (qv rfl rfl) <| qJ 9 rfl rfl rfl (qv rfl rfl) <| qR 10 rfl <| wB rfl rfl rfl (qn) ?_
       rintro t5 _ ⟨b5, rfl, rfl⟩
       refine qR 11 rfl <| wR rfl rfl rfl (qq rfl rfl (by simp) (by simp) (wt _)) ?_
       refine qJ 12 rfl rfl rfl (wM rfl) <| wG <| qW ⟨(), ?_⟩ ?_
       · (try dsimp only); all_goals trivial
       · (try dsimp only); exact qX _
      ·
       refine wB rfl rfl rfl (qn) ?_
       rintro t5 _ ⟨b5, rfl, rfl⟩
       refine qR 6 rfl <| qe rfl rfl rfl (yr (z := Sec.zero) (q := q.1.2) rfl rfl hM.d) <| qJ 7 rfl rfl rfl (wP rfl) <| qJ 8 rfl rfl rfl (qv rfl rfl) <| qJ 9 rfl rfl rfl (qv rfl rfl) <| qR 11 rfl <| wR rfl rfl rfl (qq rfl rfl (by simp) (by simp) (wt _)) ?_
       refine qJ 12 rfl rfl rfl (wM rfl) <| wG <| qW ⟨(), ?_⟩ ?_
       · (try dsimp only); all_goals trivial
       · (try dsimp only); exact qX _
     ·
      refine wB rfl rfl rfl (qn) ?_
      rintro t5 _ ⟨b5, rfl, rfl⟩
      refine qR 5 rfl <| qe rfl rfl rfl (qH rfl rfl) <| qR 6 rfl <| qe rfl rfl rfl (yr (z := Sec.zero) (q := q.1.2) rfl rfl hM.d) <| qJ 7 rfl rfl rfl (wP rfl) <| qJ 8 rfl rfl rfl (qv rfl rfl) <| qJ 9 rfl rfl rfl (qv rfl rfl) <| qR 11 rfl <| wR rfl rfl rfl (qq rfl rfl (by simp) (by simp) (wt _)) ?_
      refine qJ 12 rfl rfl rfl (wM rfl) <| wG <| qW ⟨(), ?_⟩ ?_
      · (try dsimp only); all_goals trivial
      · (try dsimp only); exact qX _
    ·
     refine qe rfl rfl rfl (qH rfl rfl) <| wy (i := 3) (j := 10) (by kernel_rfl) rfl ?_ ?_
     ·
      refine qe rfl rfl rfl (qH rfl rfl) <| wy (i := 6) (j := 10) (by kernel_rfl) rfl ?_ ?_
      ·
       refine qe rfl rfl rfl (yr (z := Sec.zero) (q := q.1.2) rfl rfl hM.d) <| qJ 7 rfl rfl rfl (wP rfl) <| qJ 8 rfl rfl rfl (qv rfl rfl) <| qJ 9 rfl rfl rfl (qv rfl rfl) <| qR 10 rfl <| wB rfl rfl rfl (qn) ?_
       rintro t5 _ ⟨b5, rfl, rfl⟩
       refine qR 11 rfl <| wR rfl rfl rfl (qq rfl rfl (by simp) (by simp) (wt _)) ?_
       refine qJ 12 rfl rfl rfl (wM rfl) <| wG <| qW ⟨(), ?_⟩ ?_
       · (try dsimp only); all_goals trivial
       · (try dsimp only); exact qX _
      ·
       refine wB rfl rfl rfl (qn) ?_
       rintro t5 _ ⟨b5, rfl, rfl⟩
       refine qR 6 rfl <| qe rfl rfl rfl (yr (z := Sec.zero) (q := q.1.2) rfl rfl hM.d) <| qJ 7 rfl rfl rfl (wP rfl) <| qJ 8 rfl rfl rfl (qv rfl rfl) <| qJ 9 rfl rfl rfl (qv rfl rfl) <| qR 11 rfl <| wR rfl rfl rfl (qq rfl rfl (by simp) (by simp) (wt _)) ?_
       refine qJ 12 rfl rfl rfl (wM rfl) <| wG <| qW ⟨(), ?_⟩ ?_
       · (try dsimp only); all_goals trivial
       · (try dsimp only); exact qX _
     ·
      refine wB rfl rfl rfl (qn) ?_
      rintro t5 _ ⟨b5, rfl, rfl⟩
      refine qR 3 rfl <| qe rfl rfl rfl (qH rfl rfl) <| qR 6 rfl <| qe rfl rfl rfl (yr (z := Sec.zero) (q := q.1.2) rfl rfl hM.d) <| qJ 7 rfl rfl rfl (wP rfl) <| qJ 8 rfl rfl rfl (qv rfl rfl) <| qJ 9 rfl rfl rfl (qv rfl rfl) <| qR 11 rfl <| wR rfl rfl rfl (qq rfl rfl (by simp) (by simp) (wt _)) ?_
      refine qJ 12 rfl rfl rfl (wM rfl) <| wG <| qW ⟨(), ?_⟩ ?_
      · (try dsimp only); all_goals trivial
      · (try dsimp only); exact qX _
    ·
     refine wB rfl rfl rfl (qn) ?_
     rintro t5 _ ⟨b5, rfl, rfl⟩
     refine wy (i := 3) (j := 5) (by kernel_rfl) rfl ?_ ?_
     ·
      refine qe rfl rfl rfl (qH rfl rfl) <| qR 5 rfl <| qe rfl rfl rfl (qH rfl rfl) <| qR 6 rfl <| qe rfl rfl rfl (yr (z := Sec.zero) (q := q.1.2) rfl rfl hM.d) <| qJ 7 rfl rfl rfl (wP rfl) <| qJ 8 rfl rfl rfl (qv rfl rfl) <| qJ 9 rfl rfl rfl (qv rfl rfl) <| qR 11 rfl <| wR rfl rfl rfl (qq rfl rfl (by simp) (by simp) (wt _)) ?_
      refine qJ 12 rfl rfl rfl (wM rfl) <| wG <| qW ⟨(), ?_⟩ ?_
      · (try dsimp only); all_goals trivial
      · (try dsimp only); exact qX _
     ·
      refine qe rfl rfl rfl (qH rfl rfl) <| qR 3 rfl <| qe rfl rfl rfl (qH rfl rfl) <| qR 6 rfl <| qe rfl rfl rfl (yr (z := Sec.zero) (q := q.1.2) rfl rfl hM.d) <| qJ 7 rfl rfl rfl (wP rfl) <| qJ 8 rfl rfl rfl (qv rfl rfl) <| qJ 9 rfl rfl rfl (qv rfl rfl) <| qR 11 rfl <| wR rfl rfl rfl (qq rfl rfl (by simp) (by simp) (wt _)) ?_
      refine qJ 12 rfl rfl rfl (wM rfl) <| wG <| qW ⟨(), ?_⟩ ?_
      · (try dsimp only); all_goals trivial
      · (try dsimp only); exact qX _
   rintro ⟨x, hcut⟩
   replace hcut : True := hcut
   show Tr _ _ _ ([(0, .pointer (some ⟨p, 0, none⟩)), (3, uo), (4, .pointer (some ⟨b4, 0, none⟩)), (6, .bool (n.data q.1.2).isSome), (17, .pointer (some ⟨it, 0, none⟩))]) ([(b4, .cells [Value.int .i64 q.1.1, Value.int .i64 q.1.2].toArray 100 (0, 0))] :: [(it, io')] :: Co :: [(p, .cells [.int .u32 n.num, .int .u32 n.ver, .int .i64 n.kind, .int .i64 n.size, .int .u32 n.time, .map (some ma), .map (some md), .map (some ms), u].toArray 90 (0, 0))] :: [(ma, oa)] :: [(md, od)] :: [(ms, os)] :: C :: F) _ _
   refine qP <| q9 (qA rfl) <| q9 (qH rfl rfl) <| q9 (wl rfl rfl) <| qB rfl <| qY (s := 35) rfl (fun hg6_3 => ?_) (fun hg6_3 => ?_)
   ·
    refine qE rfl rfl (qM rfl) <| qE rfl rfl (kN rfl) <| q9 (qk rfl rfl) <| qF <| y3 rfl (fun hc6 => ?_) (fun hc6 => ?_)
    ·
     have hlen := Yu hnd (fun k hk => Vn hok hal hag ((hmem k).1 hk))
     refine qK <| qB rfl <| q9 (qA rfl) <| q9 (qH rfl rfl) <| qG (wK rfl rfl rfl) ?_
     rintro t42 _ ⟨b42, rfl, rfl⟩
     refine qG (wg (m := 1) (sz := 1) rfl rfl hsl (wi (ys := iV [q.1.2]) inferInstance rfl rfl) rfl Tryz.underlying39 rfl rfl (by omega)) ?_
     rintro t43 _ ⟨C', hs', rfl⟩
     refine qD rfl <| qT <| qf <| w5 ⟨(vis ++ [i], io', t43, C', out ++ [q.1.2]), ?_⟩ ?_ ?_
     · (try dsimp only); exact ⟨hio', by rw [List.length_append]; simpa [iV] using hs', out_push hal hq hni hnd hmem (by simpa using hc6) hg6_3, out_mem hq hmem (by simpa using hc6) hg6_3⟩
     · (try dsimp only); exact x3 hio'
     · (try dsimp only); exact qX _
    ·
     refine qZ <| qf <| w5 ⟨(vis ++ [i], io', uo, Co, out), ?_⟩ ?_ ?_
     · (try dsimp only); exact ⟨hio', hsl, hnd, by first | exact Zr hq hmem (.inl hg6_3) | exact Zr hq hmem (.inr (by simpa using hc6))⟩
     · (try dsimp only); exact x3 hio'
     · (try dsimp only); exact qX _
   ·
    refine qN rfl rfl rfl <| qN rfl rfl rfl <| q9 (qU rfl rfl) <| qF <| wU rfl <| qZ <| qf <| w5 ⟨(vis ++ [i], io', uo, Co, out), ?_⟩ ?_ ?_
    · (try dsimp only); exact ⟨hio', hsl, hnd, by first | exact Zr hq hmem (.inl hg6_3) | exact Zr hq hmem (.inr (by simpa using hc6))⟩
    · (try dsimp only); exact x3 hio'
    · (try dsimp only); exact qX _
def jA (n : NS) (k : Int × Int) : NS := { n with
  gone := if (n.at_ k).getD 0 ≠ 0 then n.gone ++ [(n.at_ k).getD 0] else n.gone
  at_ := upd n.at_ k none
  stale := upd n.stale k none }
theorem Vs (p : Nat) (n : NS) (Cn : qV) (hn : NodeC p n Cn) (k : Int × Int) (hg : n.gone.length ≤ 1000000) :
    FnT Tryz.prog w0 69 #[.pointer (some ⟨p, 0, none⟩), yO k] (Cn :: F) (fun v L' => v = .tuple #[] ∧ ∃ Cn', NodeC p (jA n k) Cn' ∧ L' = Cn' :: F) := by
  refine node_change hn ?_
  intro ma md ms oa od os u C hM
  unfold kM zI yO
  refine qh (E0 := [(0, _), (1, _)]) (N := 33) Tryz.func69 rfl rfl rfl rfl ?_
  refine qP <| qG (wq rfl) ?_
  rintro t3 _ ⟨b3, rfl, rfl⟩
  refine qF <| qO <| qO <| wQ w8 <| wE [(5, .pure _), (6, .pure _), (7, .pure _), (8, .pure _), (9, .pure _)] (by kernel_rfl) rfl rfl rfl wd (qC rfl (fun X => qM rfl) <| qC rfl (fun X => qQ rfl) <| qC rfl (fun X => qA rfl) <| qC rfl (fun X => qH rfl rfl) <| qC rfl (fun X => wZ rfl) <| ParH.nil rfl) ?_
  dsimp only [zQ, List.drop, List.length]
  refine qm (by kernel_rfl) (yQ (z := 0) (q := k) rfl rfl hM.a) ?_
  refine qm (by kernel_rfl) (z8 rfl) ?_
  refine wI <| qI <| qP <| qB rfl <| q9 (wz rfl rfl) <| qF <| qL rfl (fun hc2 => ?_) (fun hc2 => ?_)
  ·
   refine qK <| qB rfl <| qB rfl <| q9 (qQ rfl) <| q9 (qA rfl) <| q9 (qH rfl rfl) <| qB rfl <| qG (wK rfl rfl rfl) ?_
   rintro t19 _ ⟨b19, rfl, rfl⟩
   refine qG (wg (m := 1) (sz := 1) rfl rfl hM.g (wi (ys := iV [(n.at_ k).getD 0]) inferInstance rfl rfl) rfl Tryz.underlying39 rfl rfl (by omega)) ?_
   rintro t20 _ ⟨C', hs', rfl⟩
   obtain ⟨gq, gc, rfl⟩ := hs'.slice
   refine q9 (qQ rfl) <| q9 (qA rfl) <| qS (ws rfl rfl rfl) <| qF <| qO <| wQ w8 <| wE [(23, .pure _), (24, .pure _), (25, .pure _), (26, .pure _), (27, .pure _)] (by kernel_rfl) rfl rfl rfl wd (qC rfl (fun X => qM rfl) <| qC rfl (fun X => qQ rfl) <| qC rfl (fun X => qA rfl) <| qC rfl (fun X => qH rfl rfl) <| qC rfl (fun X => wZ rfl) <| ParH.nil rfl) ?_
   dsimp only [zQ, List.drop, List.length]
   refine zt (by kernel_rfl) (xQ (q := k) rfl rfl hM.a) ?_
   rintro _ _ ⟨oa', hoa', rfl⟩
   refine wI <| qI <| wQ w8 <| wE [(28, .pure _), (29, .pure _), (30, .pure _), (31, .pure _), (32, .pure _)] (by kernel_rfl) rfl rfl rfl wd (qC rfl (fun X => qM rfl) <| qC rfl (fun X => qQ rfl) <| qC rfl (fun X => qA rfl) <| qC rfl (fun X => qH rfl rfl) <| qC rfl (fun X => wZ rfl) <| ParH.nil rfl) ?_
   dsimp only [zQ, List.drop, List.length]
   refine zt (by kernel_rfl) (xQ (q := k) rfl rfl hM.s) ?_
   rintro _ _ ⟨os', hos', rfl⟩
   refine wI <| kH ([(p, .cells [.int .u32 n.num, .int .u32 n.ver, .int .i64 n.kind, .int .i64 n.size, .int .u32 n.time, .map (some ma), .map (some md), .map (some ms), .slice gq (n.gone.length + 1) gc].toArray 90 (0, 0))] :: [(ma, oa')] :: [(md, od)] :: [(ms, os')] :: C' :: F) (.inr rfl) rfl  ?_
   exact ⟨rfl, ma, md, ms, oa', od, os', _, C', ⟨hoa', hM.d, hos', by simp only [jA, if_pos hc2]; simpa [iV] using hs'⟩, rfl⟩
  ·
   refine qZ <| qI <| qO <| wQ w8 <| wE [(23, .pure _), (24, .pure _), (25, .pure _), (26, .pure _), (27, .pure _)] (by kernel_rfl) rfl rfl rfl wd (qC rfl (fun X => qM rfl) <| qC rfl (fun X => qQ rfl) <| qC rfl (fun X => qA rfl) <| qC rfl (fun X => qH rfl rfl) <| qC rfl (fun X => wZ rfl) <| ParH.nil rfl) ?_
   dsimp only [zQ, List.drop, List.length]
   refine zt (by kernel_rfl) (xQ (q := k) rfl rfl hM.a) ?_
   rintro _ _ ⟨oa', hoa', rfl⟩
   refine wI <| qI <| wQ w8 <| wE [(28, .pure _), (29, .pure _), (30, .pure _), (31, .pure _), (32, .pure _)] (by kernel_rfl) rfl rfl rfl wd (qC rfl (fun X => qM rfl) <| qC rfl (fun X => qQ rfl) <| qC rfl (fun X => qA rfl) <| qC rfl (fun X => qH rfl rfl) <| qC rfl (fun X => wZ rfl) <| ParH.nil rfl) ?_
   dsimp only [zQ, List.drop, List.length]
   refine zt (by kernel_rfl) (xQ (q := k) rfl rfl hM.s) ?_
   rintro _ _ ⟨os', hos', rfl⟩
   refine wI <| kH ([(p, .cells [.int .u32 n.num, .int .u32 n.ver, .int .i64 n.kind, .int .i64 n.size, .int .u32 n.time, .map (some ma), .map (some md), .map (some ms), u].toArray 90 (0, 0))] :: [(ma, oa')] :: [(md, od)] :: [(ms, os')] :: C :: F) (.inr rfl) rfl  ?_
   exact ⟨rfl, ma, md, ms, oa', od, os', u, C, ⟨hoa', hM.d, hos', by simp only [jA, if_neg hc2]; exact hM.g⟩, rfl⟩
theorem yV {L L' : Res} (h : ∀ f : Vc → Bool, L.flatten.countP f = L'.flatten.countP f) : ∀ w, Own w0 L w → Own w0 L' w := fun w hw => by
  classical
  exact hw.perm (List.perm_iff_count.2 fun a => h _)
def JI (gv : Value) (K : qV) (xs : List Int) (pr : Int → Bool) : Prop := ∀ (w0 : World) (F : Res), ∀ a ∈ xs, FnV Tryz.prog w0 gv [.int .i64 a] (K :: F) (fun v L' => v = .bool (pr a) ∧ L' = K :: F)
def MN (xs : List Int) (pr : Int → Bool) : Int := if xs.any pr then (xs.findIdx pr : Int) else -1
theorem idxF_hit {xs : List Int} {pr : Int → Bool} {i : Nat} {q : Int} (hn : (xs.take i).any pr = false) (hq : xs[i]? = some q) (h : pr q = true) : MN xs pr = (i : Int) := by
  unfold MN
  obtain ⟨hlt, he⟩ := List.getElem?_eq_some_iff.1 hq
  rw [if_pos (List.any_eq_true.2 ⟨q, List.mem_of_getElem? hq, h⟩)]
  congr 1
  rw [List.findIdx_eq hlt]
  refine ⟨by rw [he]; exact h, fun j hj => ?_⟩
  have := List.any_eq_false.1 hn (xs[j]'(by omega)) (List.mem_iff_getElem.2 ⟨j, by simp; omega, by simp⟩)
  simpa using this
theorem any_snoc {xs : List Int} {pr : Int → Bool} {i : Nat} {q : Int} (hn : (xs.take i).any pr = false) (hq : xs[i]? = some q) (h : pr q = false) : (xs.take (i + 1)).any pr = false := by
  rw [List.take_add_one, hq, List.any_append, hn]; simp [h]
theorem indexFunc_ok (gv u : Value) (K C : qV) (xs : List Int) (pr : Int → Bool) (hp : JI gv K xs pr) (hs : SlC 3 1 u xs.length (iV xs) C) (hl : xs.length ≤ 1000000) :
    FnT Tryz.prog w0 96 #[u, gv] (C :: K :: F) (fun v L' => v = .int .i64 (MN xs pr) ∧ L' = C :: K :: F) := by
  obtain ⟨pu, cu, hu⟩ := hs.slice
  refine qh (E0 := [(0, _), (1, _)]) (N := 19) Tryz.func96 rfl rfl rfl rfl ?_
  refine qP <| qD rfl <| qF <| qO <| qP <| qB rfl <| q9 (wD (by rw [← hu]; rfl)) ?_
  refine qB rfl <| qF <| qg <| wV (Γ := {pΓ : (Nat) // (fun (i : Nat) => i ≤ xs.length ∧ (xs.take i).any pr = false) pΓ}) (fun g => (fun (i : Nat) => [(0, u), (1, gv), (7, .int .i64 xs.length), (8, .int .i64 i)]) g.1) (fun g => (fun (i : Nat) => C :: K :: F) g.1) (fun g => (fun (i : Nat) => xs.length - i) g.1) ⟨0, by dsimp only; exact ⟨by omega, rfl⟩⟩ (qX _) ?_
  rintro ⟨i, hloop⟩
  replace hloop : i ≤ xs.length ∧ (xs.take i).any pr = false := hloop
  obtain ⟨hi, hn⟩ := hloop
  show Tr _ _ _ ([(0, u), (1, gv), (7, .int .i64 xs.length), (8, .int .i64 i)]) (C :: K :: F) _ _
  refine qP <| q9 (wL rfl rfl) <| qF <| qO <| qL rfl (fun hc2 => ?_) (fun hc2 => ?_)
  ·
   refine qZ <| qI <| qO <| qg <| qO ?_
   obtain ⟨q, hq⟩ : ∃ q, xs[i]? = some q := ⟨_, List.getElem?_eq_getElem (by omega)⟩
   refine qK <| qB rfl <| qD rfl <| qo <| qB rfl <| qB rfl <| qB rfl <| qG (yP (j := i) rfl rfl hs (by omega) (by omega)) ?_
   rintro t14 _ ⟨b, cap, spare, hqc, rfl, hcap, hnc, rfl, rfl⟩
   refine q9 (qH rfl (show wX _ _ = some (.int .i64 q) by rw [zK, Nat.mul_one, List.getElem?_append_left (by simp [iV]; omega)]; simp [iV, hq])) ?_
   refine q9 (kX rfl rfl (YL K (hp w0 _ q (List.mem_of_getElem? hq)))) <| qF <| y3 rfl (fun hc4 => ?_) (fun hc4 => ?_)
   ·
    refine qP <| qB rfl <| qD rfl <| qF <| qz <| wN <| w7 <| kc <| wN <| w7 <| zn (.inl rfl) rfl (qu rfl) ?_
    exact ⟨by rw [idxF_hit hn hq hc4], rfl⟩
   ·
    refine qZ <| qf <| qI <| qK <| q9 (w9 rfl rfl (by omega)) <| qB rfl <| qT <| w5 ⟨i + 1, ?_⟩ ?_ ?_
    · (try dsimp only); exact ⟨by omega, any_snoc hn hq (by simpa using hc4)⟩
    · (try dsimp only); omega
    · (try dsimp only); exact qX _
  ·
   refine wb <| qr <| qt <| qj <| qI <| qP <| qD rfl <| qF <| qz <| zn (.inl rfl) rfl (qu rfl) ?_
   exact ⟨by rw [List.take_of_length_le (by omega)] at hn; unfold MN; rw [hn]; rfl, rfl⟩
theorem xn (gv u : Value) (K C : qV) (xs : List Int) (pr : Int → Bool) (hp : JI gv K xs pr) (hs : SlC 3 1 u xs.length (iV xs) C) (hl : xs.length ≤ 1000000) :
    FnT Tryz.prog w0 73 #[u, gv] (C :: K :: F) (fun v L' => v = .bool (xs.any pr) ∧ L' = C :: K :: F) := by
  refine qh (E0 := [(0, _), (1, _)]) (N := 9) Tryz.func73 rfl rfl rfl rfl ?_
  refine qP <| qD rfl <| qo <| qB rfl <| qB rfl <| q9 (wJ rfl (yj (C) (K) (indexFunc_ok gv u K C xs pr hp hs hl))) <| q9 (j2 rfl rfl) <| qD rfl <| qF <| qz <| zn (.inl rfl) rfl (qu rfl) ?_
  exact ⟨by congr 1; unfold MN; cases h : xs.any pr <;> simp, rfl⟩
theorem YM {P : Program} {f : FuncId} {vs : List Value} {R : Value → Res → Prop} [he : Enters P f] (h : FnT P w0 f vs.toArray L R) : FnV P w0 (.func (.func f) #[] #[]) vs L R := by
  have := Z0 (first := []) (captured := []) (vs := vs) (f := f) (P := P) (w0 := w0) (L := L) (R := R) (by simpa using h)
  exact this
theorem FnV.of1 {P : Program} {f : FuncId} {vs : List Value} {c : Value} {R : Value → Res → Prop} [he : Enters P f] (h : FnT P w0 f (vs ++ [c]).toArray L R) : FnV P w0 (.func (.func f) #[] #[c]) vs L R := by
  have := Z0 (first := []) (captured := [c]) (vs := vs) (f := f) (P := P) (w0 := w0) (L := L) (R := R) (by simpa using h)
  exact this
theorem FnV.pre {P : Program} {g : Value} {vs : List Value} {L L' : Res} {R : Value → Res → Prop} (h : FnV P w0 g vs L' R) (hL : ∀ w, Own w0 L w → Own w0 L' w) : FnV P w0 g vs L R := by
  obtain ⟨f, first, captured, e1, e2, e3⟩ := h.ex
  exact ⟨f, first, captured, e1, e2, e3.pre hL⟩
theorem W7 {P : Program} {f : FuncId} {args : Array Value} {L L1 : Res} {Rv : Value → Prop} (h : FnT P w0 f args L1 (fun v L' => Rv v ∧ L' = L1)) (e : L.flatten = L1.flatten) : FnT P w0 f args L (fun v L' => Rv v ∧ L' = L) :=
  (h.pre (we e)).post fun v L' ⟨h1, h2⟩ => ⟨_, ⟨h1, rfl⟩, by subst h2; exact we e.symm⟩
theorem KL {n : NS} {i : Int} (h : i ∈ jI n) : 0 ≤ i ∧ i < 1064 := by
  unfold jI at h
  obtain ⟨k, hk, rfl⟩ := List.mem_map.1 (List.mem_filter.1 h).1
  rw [List.mem_range] at hk; omega
theorem Zz (n : NS) : (jI n).length ≤ 1064 := by
  unfold jI
  refine Nat.le_trans (List.length_filter_le _ _) ?_
  simp
def WX (n : NS) (p : Int × Int) : Bool := if p = (4, 0) then (jI n).any (fun i => decide ((zF i).1 = 5)) else (jI n).any (fun i => decide (zF i = p))
theorem isLeaf_ok (G : qV) (hg : kn G) (xs : List Int) (hx : ∀ x ∈ xs, 0 ≤ x ∧ x < 1064) : JI (.func (.func 94) #[] #[]) G xs (fun i => decide ((zF i).1 = 5)) := by
  intro w0 F a ha
  have hr := hx a ha
  refine YM ?_
  refine qh (E0 := [(0, _)]) (N := 7) Tryz.func94 rfl rfl rfl rfl ?_
  refine qP <| qD rfl <| qo <| qB rfl <| q9 (wJ rfl (zS (G) (YI a G hg (by omega)))) <| q9 (op_field (n := 0) rfl Tryz.underlying100 rfl rfl) <| q9 (wl rfl rfl) <| qD rfl <| qF <| qz <| zn (.inl rfl) rfl (qu rfl) ?_
  exact ⟨rfl, rfl⟩
theorem isAbove_ok (G : qV) (hg : kn G) (xs : List Int) (hx : ∀ x ∈ xs, 0 ≤ x ∧ x < 1064) (b : Nat) (p : Int × Int) :
    JI (.func (.func 95) #[] #[.pointer (some ⟨b, 0, none⟩)]) ((b, .cells [.int .i64 p.1, .int .i64 p.2].toArray 100 (0, 0)) :: G) xs (fun i => decide (zF i = p)) := by
  intro w0 F a ha
  have hr := hx a ha
  refine FnV.of1 ?_
  refine W7 (L1 := [(b, .cells [.int .i64 p.1, .int .i64 p.2].toArray 100 (0, 0))] :: G :: F) ?_ (by simp)
  refine qh (E0 := [(0, _), (1, _)]) (N := 8) Tryz.func95 rfl rfl rfl rfl ?_
  refine qP <| qD rfl <| qF <| qO <| wQ w8 <| wE [(4, .pure _), (5, .pure _), (6, .pure _)] (by kernel_rfl) rfl rfl rfl wd (qC rfl (fun X => qM rfl) <| qC rfl (fun X => wJ rfl (zS (G) (YI a G hg (by omega)))) <| qC rfl (fun X => wZ rfl) <| ParH.nil rfl) ?_
  dsimp only [zQ, List.drop, List.length]
  refine qm (by kernel_rfl) (Z6 rfl rfl) ?_
  refine qm (by kernel_rfl) (z8 rfl) ?_
  refine wI <| qI <| qz <| zn (.inl rfl) rfl (qu rfl) ?_
  exact ⟨by congr 1; simp [Prod.ext_iff], rfl⟩
theorem K5 (H : jJ w0) (p : Nat) (n : NS) (Cn G : qV) (hn : NodeC p n Cn) (hg : kn G) (hok : NOk n) (q : Int × Int) :
    FnT Tryz.prog w0 71 #[.pointer (some ⟨p, 0, none⟩), yO q] (Cn :: G :: F) (fun v L' => v = .bool (WX n q) ∧ L' = Cn :: G :: F) := by
  obtain ⟨e0, f0, e1, f1, e2, f2, hG⟩ := id hg
  have hGl : ([G] : Res).flatten = ([(0, .cells [Value.int .i64 2, Value.int .i64 0].toArray e0 f0)] :: [(1, .cells [Value.int .i64 4, Value.int .i64 0].toArray e1 f1)] :: [(2, .cells [Value.int .i64 3, Value.int .i64 0].toArray e2 f2)] :: []).flatten := by rw [hG]; simp
  refine W7 (L1 := Cn :: [(0, .cells [Value.int .i64 2, Value.int .i64 0].toArray e0 f0)] :: [(1, .cells [Value.int .i64 4, Value.int .i64 0].toArray e1 f1)] :: [(2, .cells [Value.int .i64 3, Value.int .i64 0].toArray e2 f2)] :: F) ?_ (by rw [hG]; simp)
  unfold yO
  refine qh (E0 := [(0, _), (1, _)]) (N := 15) Tryz.func71 rfl rfl rfl rfl ?_
  refine qP <| qG (wq rfl) ?_
  rintro t3 _ ⟨b3, rfl, rfl⟩
  refine qD rfl <| qF <| qO <| qP <| q9 (wZ rfl) <| q9 (wZ rfl) <| q9 (Z6 rfl rfl) <| qF <| qL rfl (fun hc1 => ?_) (fun hc1 => ?_)
  ·
   refine qO <| yx (we (L' := [(b3, .cells [.int .i64 q.1, .int .i64 q.2].toArray 100 (0, 0))] :: Cn :: G :: F) (by rw [hG]; simp)) ?_
   refine qK <| qB rfl <| qG (qx rfl (wc (Cn) (xS H p n Cn hn hok))) ?_
   rintro t9 _ ⟨C', hs, rfl⟩
   refine q9 (wJ rfl (yj (C') (G) (xn _ t9 G C' (jI n) _ (isLeaf_ok G hg _ (fun x hx => KL hx)) hs (by have := Zz n; omega)))) ?_
   refine qD rfl <| qT <| zM (qX (Cn :: G :: F)) <| zM (we (L' := Cn :: [(0, .cells [Value.int .i64 2, Value.int .i64 0].toArray e0 f0)] :: [(1, .cells [Value.int .i64 4, Value.int .i64 0].toArray e1 f1)] :: [(2, .cells [Value.int .i64 3, Value.int .i64 0].toArray e2 f2)] :: F) (by rw [hG]; simp)) ?_
   refine qI <| qz <| w7 <| zn (.inl rfl) rfl (qu rfl) ?_
   exact ⟨by unfold WX; rw [if_pos (by simpa [Prod.ext_iff] using hc1)], rfl⟩
  ·
   refine qZ <| qI <| qO <| yx (L' := ((b3, .cells [.int .i64 q.1, .int .i64 q.2].toArray 100 (0, 0)) :: G) :: Cn :: F) (by rw [hG]; exact (yV (by intro f; simp only [List.flatten_cons, List.flatten_nil, List.append_nil, List.countP_append, List.countP_cons, List.countP_nil]; omega))) ?_
   refine qK <| qB rfl <| qG (qx rfl (wc (Cn) (xS H p n Cn hn hok))) ?_
   rintro t12 _ ⟨C', hs, rfl⟩
   refine q9 (wx rfl rfl) <| q9 (wJ rfl (yj (C') (((b3, .cells [.int .i64 q.1, .int .i64 q.2].toArray 100 (0, 0)) :: G)) (xn _ t12 _ C' (jI n) _ (isAbove_ok G hg _ (fun x hx => KL hx) b3 q) hs (by have := Zz n; omega)))) ?_
   refine qD rfl <| qT <| zM (L' := [(b3, .cells [.int .i64 q.1, .int .i64 q.2].toArray 100 (0, 0))] :: C' :: Cn :: G :: F) (yV (by intro f; simp only [List.flatten_cons, List.flatten_nil, List.append_nil, List.countP_append, List.countP_cons, List.countP_nil]; omega)) ?_
   refine zM (qX (Cn :: G :: F)) <| zM (we (L' := Cn :: [(0, .cells [Value.int .i64 2, Value.int .i64 0].toArray e0 f0)] :: [(1, .cells [Value.int .i64 4, Value.int .i64 0].toArray e1 f1)] :: [(2, .cells [Value.int .i64 3, Value.int .i64 0].toArray e2 f2)] :: F) (by rw [hG]; simp)) ?_
   refine qI <| qz <| zn (.inl rfl) rfl (qu rfl) ?_
   exact ⟨by unfold WX; rw [if_neg (by simpa [Prod.ext_iff] using hc1)], rfl⟩
end
end Go.Proofs.YtjikpomndbkfgaaGreatDoor
namespace Go.Nd
def wC (k : Int × Int) : Prop := (k.1 = 1 ∧ 0 ≤ k.2 ∧ k.2 < 1064) ∨ k = (2, 0) ∨ k = (3, 0) ∨ k = (4, 0) ∨ (k.1 = 5 ∧ 0 ≤ k.2 ∧ k.2 < 32)
def Kf (k : Int) : Int := if k = 5 then 1 else if k = 3 then 2 else if k = 4 then 3 else if k = 2 then 4 else 0
def kj (a b : Int × Int) : Int := if a.1 ≠ b.1 then Kf a.1 - Kf b.1 else a.2 - b.2
def allParts : List (Int × Int) := (List.range 1064).map (fun i : Nat => ((1 : Int), (i : Int))) ++ ((List.range 32).map (fun i : Nat => ((5 : Int), (i : Int))) ++ [(3, 0), (4, 0), (2, 0)])
theorem kY (k : Int × Int) : k ∈ allParts ↔ wC k := by
  unfold allParts wC
  simp only [List.mem_append, List.mem_map, List.mem_range, List.mem_cons, List.not_mem_nil, or_false]
  constructor
  · rintro (⟨i, hi, rfl⟩ | ⟨i, hi, rfl⟩ | rfl | rfl | rfl)
    · exact .inl ⟨rfl, by simp, by simp; omega⟩
    · exact .inr (.inr (.inr (.inr ⟨rfl, by simp, by simp; omega⟩)))
    · exact .inr (.inr (.inl rfl))
    · exact .inr (.inr (.inr (.inl rfl)))
    · exact .inr (.inl rfl)
  · rintro (⟨h1, h2, h3⟩ | h | h | h | ⟨h1, h2, h3⟩)
    · exact .inl ⟨k.2.toNat, by omega, Prod.ext h1.symm (by simp; omega)⟩
    · exact .inr (.inr (.inr (.inr h)))
    · exact .inr (.inr (.inl h))
    · exact .inr (.inr (.inr (.inl h)))
    · exact .inr (.inl ⟨k.2.toNat, by omega, Prod.ext h1.symm (by simp; omega)⟩)
theorem allParts_sorted : allParts.Pairwise (fun a b => kj a b < 0) := by
  unfold allParts
  rw [List.pairwise_append, List.pairwise_append]
  refine ⟨?_, ⟨?_, ?_, ?_⟩, ?_⟩
  · rw [List.pairwise_map]
    exact List.pairwise_lt_range.imp (fun h => by simp [kj]; omega)
  · rw [List.pairwise_map]
    exact List.pairwise_lt_range.imp (fun h => by simp [kj]; omega)
  · simp [kj, Kf]
  · intro a ha b hb
    obtain ⟨i, _, rfl⟩ := List.mem_map.1 ha
    simp only [List.mem_cons, List.not_mem_nil, or_false] at hb
    rcases hb with rfl | rfl | rfl <;> simp [kj, Kf]
  · intro a ha b hb
    obtain ⟨i, _, rfl⟩ := List.mem_map.1 ha
    simp only [List.mem_append, List.mem_cons, List.not_mem_nil, or_false] at hb
    rcases hb with hb | rfl | rfl | rfl
    · obtain ⟨j, _, rfl⟩ := List.mem_map.1 hb
      simp [kj, Kf]
    all_goals simp [kj, Kf]
theorem K4 (a : Int × Int) : ¬ kj a a < 0 := by simp [kj]
theorem Xx {a b : Int × Int} (ha : wC a) (hb : wC b) (h : Kf a.1 = Kf b.1) : a.1 = b.1 := by
  have key : ∀ c : Int × Int, wC c → c.1 = 1 ∨ c.1 = 2 ∨ c.1 = 3 ∨ c.1 = 4 ∨ c.1 = 5 := by
    intro c hc
    rcases hc with ⟨h, _⟩ | h | h | h | ⟨h, _⟩
    · exact .inl h
    · exact .inr (.inl (by rw [h]))
    · exact .inr (.inr (.inl (by rw [h])))
    · exact .inr (.inr (.inr (.inl (by rw [h]))))
    · exact .inr (.inr (.inr (.inr h)))
  rcases key a ha with h1 | h1 | h1 | h1 | h1 <;> rcases key b hb with h2 | h2 | h2 | h2 | h2 <;> rw [h1, h2] at h ⊢ <;> revert h <;> decide
theorem Jq {a b : Int × Int} (ha : wC a) (hb : wC b) (h1 : kj a b ≤ 0) (h2 : kj b a ≤ 0) : a = b := by
  unfold kj at h1 h2
  by_cases h : a.1 = b.1
  · rw [if_neg (by simp [h])] at h1
    rw [if_neg (by simp [h])] at h2
    exact Prod.ext h (by omega)
  · rw [if_pos h] at h1
    rw [if_pos (Ne.symm h)] at h2
    exact absurd (Xx ha hb (by omega)) h
theorem WN {a b c : Int × Int} (ha : wC a) (hb : wC b) (hc : wC c) (h1 : kj a b ≤ 0) (h2 : kj b c ≤ 0) : kj a c ≤ 0 := by
  unfold kj at *
  split
  · rename_i hac
    split at h1
    · split at h2
      · omega
      · rename_i hbc
        have : b.1 = c.1 := by omega
        rw [← this]; exact h1
    · rename_i hab
      have e : a.1 = b.1 := by omega
      split at h2
      · rw [e]; exact h2
      · omega
  · rename_i hac
    have e : a.1 = c.1 := by omega
    split at h1
    · rename_i hab
      split at h2
      · rename_i hbc
        have := Xx ha hb (by rw [e] at h1 ⊢; omega)
        omega
      · omega
    · split at h2
      · omega
      · omega
theorem cmpP_total (a b : Int × Int) : kj a b ≤ 0 ∨ kj b a ≤ 0 := by
  unfold kj
  by_cases h : a.1 = b.1
  · rw [if_neg (by simp [h]), if_neg (by simp [h])]; omega
  · rw [if_pos h, if_pos (Ne.symm h)]; omega
theorem sorted_parts_eq {xs ys : List (Int × Int)} (hx : xs.Pairwise (fun a b => kj a b ≤ 0)) (hy : ys.Pairwise (fun a b => kj a b ≤ 0)) (hp : xs.Perm ys) (hok : ∀ x ∈ xs, wC x) : xs = ys :=
  List.Perm.eq_of_pairwise (le := fun a b => kj a b ≤ 0) (fun a b ha hb h1 h2 => Jq (hok a ha) (hok b (hp.mem_iff.2 hb)) h1 h2) hx hy hp
theorem WV {xs : List (Int × Int)} (hn : xs.Nodup) (hok : ∀ x ∈ xs, wC x) : xs.length ≤ 1099 := by
  have h : ∀ (l1 l2 : List (Int × Int)), l1.Nodup → (∀ x ∈ l1, x ∈ l2) → l1.length ≤ l2.length := by
    intro l1
    induction l1 with
    | nil => intro l2 _ _; simp
    | cons a l ih =>
      intro l2 hn hs
      have h1 := List.nodup_cons.1 hn
      have ha := hs a (by simp)
      have := ih (l2.erase a) h1.2 (fun x hx => (List.mem_erase_of_ne (fun e => h1.1 (by subst e; exact hx))).2 (hs x (by simp [hx])))
      have e := List.length_erase_of_mem ha
      have pos : 0 < l2.length := List.length_pos_of_mem ha
      simp; omega
  have := h xs allParts hn (fun x hx => (kY x).2 (hok x hx))
  have e : allParts.length = 1099 := by simp [allParts]
  omega
theorem WU {out : List (Int × Int)} {pr : Int × Int → Bool} (hn : out.Nodup) (hm : ∀ k, k ∈ out ↔ wC k ∧ pr k = true) {xs : List (Int × Int)} (hp : xs.Perm out) (hs : xs.Pairwise (fun a b => kj a b ≤ 0)) : xs = allParts.filter pr := by
  refine sorted_parts_eq hs ((allParts_sorted.filter pr).imp (fun h => by omega)) ?_ (fun x hx => ((hm x).1 (hp.mem_iff.1 hx)).1)
  refine hp.trans ((List.perm_ext_iff_of_nodup hn ?_).2 fun k => ?_)
  · exact (allParts_sorted.filter pr).imp (fun {a b} h e => by subst e; exact K4 a h)
  · rw [hm, List.mem_filter, kY]
end Go.Nd
namespace Go.Proofs.YtjikpomndbkfgaaGreatDoor
open Go Go.Sx Go.Nd
set_option maxRecDepth 10000
section
variable {w0 : World} {L F : Res}
def setStale (n : NS) (k : Int × Int) : NS := { n with stale := upd n.stale k (some 1) }
def zy (n : NS) (i : Int) (s : Option Sec) : NS := { n with data := upd n.data i s }
def loseIf (n : NS) (k : Int × Int) : NS := if WX n k then n else jA n k
def x4 (n : NS) (i : Int) : NS :=
  if zF i = (2, 0) then setStale (jA (zy n i none) (1, i)) (2, 0)
  else ([zF i, (4, 0)] : List (Int × Int)).foldl loseIf (if (zF i).1 = 5 then setStale (setStale (setStale (jA (zy n i none) (1, i)) (2, 0)) (zF i)) (4, 0) else setStale (setStale (jA (zy n i none) (1, i)) (2, 0)) (zF i))
theorem QL {i : Int} (h : 0 ≤ i ∧ i < 1064) : wC (zF i) := by
  unfold zF wC wW
  repeat' split
  all_goals simp_all
  all_goals omega
theorem NOk.lose {n : NS} (h : NOk n) (k : Int × Int) : NOk (jA n k) :=
  ⟨h.data, fun q hq => h.at1 q (fun e => hq (by simp only [jA, upd]; split <;> first | rfl | exact e)),
   fun q a hq => h.at2 q a (by simp only [jA, upd] at hq; split at hq; · cases hq
                               · exact hq),
   fun q hq => h.stale q (fun e => hq (by simp only [jA, upd]; split <;> first | rfl | exact e))⟩
theorem NOk.setStale {n : NS} (h : NOk n) {k : Int × Int} (hk : wC k) : NOk (setStale n k) :=
  ⟨h.data, h.at1, h.at2, fun q hq => by
    by_cases e : q = k
    · subst e; exact hk
    · exact h.stale q (fun e' => hq (by simp only [Proofs.YtjikpomndbkfgaaGreatDoor.setStale]; rw [wk _ _ e]; exact e'))⟩
theorem NOk.dataNone {n : NS} (h : NOk n) (i : Int) : NOk (zy n i none) :=
  ⟨fun k hk => h.data k (fun e => hk (by simp only [zy, upd]; split <;> first | rfl | exact e)), h.at1, h.at2, h.stale⟩
theorem NOk.dataSome {n : NS} (h : NOk n) {i : Int} (hi : 0 ≤ i ∧ i < 1064) (s : Sec) : NOk (zy n i (some s)) :=
  ⟨fun k hk => by
    by_cases e : k = i
    · subst e; exact hi
    · exact h.data k (fun e' => hk (by simp only [zy]; rw [wk _ _ e]; exact e')), h.at1, h.at2, h.stale⟩
theorem NOk.loseIf {n : NS} (h : NOk n) (k : Int × Int) : NOk (loseIf n k) := by
  unfold Proofs.YtjikpomndbkfgaaGreatDoor.loseIf
  split
  · exact h
  · exact h.lose k
theorem Z7 (n : NS) (k : Int × Int) : (jA n k).gone.length ≤ n.gone.length + 1 := by
  simp only [jA]; split <;> simp
theorem QS (n : NS) (k : Int × Int) : (loseIf n k).gone.length ≤ n.gone.length + 1 := by
  unfold loseIf; split
  · omega
  · exact Z7 n k
def zP (p : Int × Int) : List Value := [.int .i64 p.1, .int .i64 p.2]
theorem y4 (p : Int × Int) : (zP p).length = 2 := rfl
theorem hole_ok (H : jJ w0) (p : Nat) (n : NS) (Cn G : qV) (hn : NodeC p n Cn) (hg : kn G) (hok : NOk n) (i : Int) (hi : 0 ≤ i ∧ i < 1064) (hgl : n.gone.length ≤ 900000) :
    FnT Tryz.prog w0 42 #[.pointer (some ⟨p, 0, none⟩), .int .i64 i] (Cn :: G :: F) (fun v L' => v = .tuple #[] ∧ ∃ Cn', NodeC p (x4 n i) Cn' ∧ L' = Cn' :: G :: F) := by
  obtain ⟨e0, f0, e1, f1, e2, f2, hG⟩ := id hg
  obtain ⟨ma, md, ms, oa, od, os, u, C, hM, hCn⟩ := hn.eq
  unfold zI at hCn
  refine FnT.pre (L' := [(p, .cells [.int .u32 n.num, .int .u32 n.ver, .int .i64 n.kind, .int .i64 n.size, .int .u32 n.time, .map (some ma), .map (some md), .map (some ms), u].toArray 90 (0, 0))] :: [(ma, oa)] :: [(md, od)] :: [(ms, os)] :: C :: G :: F) ?_ (we (by rw [hCn]; simp))
  have hpa := QL hi
  obtain ⟨ab, hab⟩ : ∃ ab, zF i = ab := ⟨_, rfl⟩
  rw [hab] at hpa
  refine qh (E0 := [(0, _), (1, _)]) (N := 55) Tryz.func42 rfl rfl rfl rfl ?_
  refine qP <| qB rfl <| q9 (qQ rfl) <| q9 (qA rfl) <| q9 (qH rfl rfl) <| qB rfl <| y5 (xQ (q := i) rfl rfl hM.d) ?_
  rintro _ _ ⟨od', hod', rfl⟩
  refine qF <| qO ?_
  obtain ⟨C1, hC1⟩ : ∃ C1, C1 = ((p, .cells (zI (zy n i none) ma md ms u).toArray 90 (0, 0)) :: (ma, oa) :: (md, od') :: (ms, os) :: C : qV) := ⟨_, rfl⟩
  have hn1 : NodeC p (zy n i none) C1 := ⟨ma, md, ms, oa, od', os, u, C, hC1, hM.a, hod', hM.s, hM.g⟩
  refine yx (we (L' := C1 :: G :: F) (by rw [hC1]; simp [zI, zy])) ?_
  refine qK <| qB rfl <| qB rfl <| q9 (wa rfl) <| qG (qx rfl (wc (C1) (Vs p (zy n i none) C1 hn1 (1, i) (by show n.gone.length ≤ _; omega)))) ?_
  rintro t15 _ ⟨rfl, C2, hn2, rfl⟩
  refine qT ?_
  obtain ⟨m, hm⟩ : ∃ m, jA (zy n i none) (1, i) = m := ⟨_, rfl⟩
  have hok2 : NOk m := hm ▸ (hok.dataNone i).lose _
  have hgl2 : m.gone.length ≤ 900001 := by have := Z7 (zy n i none) (1, i); rw [hm] at this; have e : (zy n i none).gone = n.gone := rfl; rw [e] at this; omega
  rw [hm] at hn2
  refine qI <| qP <| qB rfl <| q9 (wJ rfl (zS (G) (YI i G hg (by omega)))) <| qG (qn) ?_
  rintro t4 _ ⟨b4, rfl, rfl⟩
  refine qS (qq (l := [Value.int .i64 0, Value.int .i64 0]) (vs := [.int .i64 ab.1, .int .i64 ab.2]) rfl (by rw [hab]; rfl) rfl rfl rfl) ?_
  refine qF <| qO ?_
  obtain ⟨ma, md, ms, oa, od, os, u, C, hM2, hC2⟩ := hn2.eq
  unfold zI at hC2
  obtain ⟨n0, hn0⟩ : ∃ n0, n0 = n := ⟨_, rfl⟩
  obtain ⟨n, hnm⟩ : ∃ n, n = m := ⟨_, rfl⟩
  rw [← hnm] at hC2 hM2 hok2 hgl2 hm
  refine yx (L' := [(b4, .cells [.int .i64 ab.1, .int .i64 ab.2].toArray 100 (0, 0))] :: [(p, .cells [.int .u32 n.num, .int .u32 n.ver, .int .i64 n.kind, .int .i64 n.size, .int .u32 n.time, .map (some ma), .map (some md), .map (some ms), u].toArray 90 (0, 0))] :: [(ma, oa)] :: [(md, od)] :: [(ms, os)] :: C :: [(0, .cells [Value.int .i64 2, Value.int .i64 0].toArray e0 f0)] :: [(1, .cells [Value.int .i64 4, Value.int .i64 0].toArray e1 f1)] :: [(2, .cells [Value.int .i64 3, Value.int .i64 0].toArray e2 f2)] :: F) (we (by rw [hC2, hG]; simp)) ?_
  refine wQ w8 <| wE [(18, .pure _), (19, .pure _), (20, .pure _), (21, .pure _), (22, .pure _)] (by kernel_rfl) rfl rfl rfl wd (qC rfl (fun X => qM rfl) <| qC rfl (fun X => qQ rfl) <| qC rfl (fun X => qA rfl) <| qC rfl (fun X => qH rfl rfl) <| qC rfl (fun X => wZ rfl) <| ParH.nil rfl) ?_
  dsimp only [zQ, List.drop, List.length]
  refine zt (by kernel_rfl) (zR (q := (2, 0)) (v := (1 : Int)) rfl rfl rfl hM2.s) ?_
  rintro _ _ ⟨os', hos', rfl⟩
  refine wI ?_
  have hM3 : JJ (setStale n (2, 0)) oa od os' u C := ⟨hM2.a, hM2.d, hos', hM2.g⟩
  have hok3 := hok2.setStale (k := (2, 0)) (.inr (.inl rfl))
  refine qI <| qO <| qP <| q9 (wZ rfl) <| q9 (wZ rfl) <| q9 (Z6 rfl rfl) <| qF <| qL rfl (fun hc4 => ?_) (fun hc4 => ?_)
  ·
   refine yx (L' := (((p, .cells (zI (setStale n (2, 0)) ma md ms u).toArray 90 (0, 0)) :: (ma, oa) :: (md, od) :: (ms, os') :: C : qV) :: G :: F)) (fun w hw => we (by rw [hG]; simp [zI, setStale]) w hw.tail) ?_
   refine qz <| w7 <| kH (((p, .cells (zI (setStale n (2, 0)) ma md ms u).toArray 90 (0, 0)) :: (ma, oa) :: (md, od) :: (ms, os') :: C : qV) :: G :: F) (.inl rfl) rfl  ?_
   have e1 : ab = (2, 0) := by simpa [Prod.ext_iff] using hc4
   refine ⟨rfl, ((p, .cells (zI (setStale n (2, 0)) ma md ms u).toArray 90 (0, 0)) :: (ma, oa) :: (md, od) :: (ms, os') :: C : qV), ?_, rfl⟩
   rw [← hn0, show x4 n0 i = setStale n (2, 0) from by unfold x4; rw [hab, if_pos e1, hn0, hm]]
   exact ⟨ma, md, ms, oa, od, os', u, C, rfl, hM3.a, hM3.d, hM3.s, hM3.g⟩
  ·
   refine qZ <| qI <| qO <| wQ w8 <| wE [(26, .pure _), (27, .pure _), (28, .pure _), (29, .pure _), (30, .pure _)] (by kernel_rfl) rfl rfl rfl wd (qC rfl (fun X => qM rfl) <| qC rfl (fun X => qQ rfl) <| qC rfl (fun X => qA rfl) <| qC rfl (fun X => qH rfl rfl) <| qC rfl (fun X => wZ rfl) <| ParH.nil rfl) ?_
   dsimp only [zQ, List.drop, List.length]
   refine zt (by kernel_rfl) (zR (q := ab) (v := (1 : Int)) rfl rfl rfl hM3.s) ?_
   rintro _ _ ⟨os4, hos4, rfl⟩
   refine wI <| qI <| zb (Γ := {pΓ : (NS) × (qV) // (fun (m4 : NS) (C4 : qV) => NodeC p m4 C4 ∧ m4 = (if ab.1 = 5 then setStale (setStale (setStale n (2, 0)) ab) (4, 0) else setStale (setStale n (2, 0)) ab) ∧ NOk m4 ∧ m4.gone.length ≤ 900001) pΓ.1 pΓ.2}) (fun g => (fun (m4 : NS) (C4 : qV) => [(0, .pointer (some ⟨p, 0, none⟩)), (4, .pointer (some ⟨b4, 0, none⟩))]) g.1.1 g.1.2) (fun g => (fun (m4 : NS) (C4 : qV) => [(b4, .cells [.int .i64 ab.1, .int .i64 ab.2].toArray 100 (0, 0))] :: C4 :: G :: F) g.1.1 g.1.2) ?_ ?_
   ·
    refine qP <| q9 (qA rfl) <| q9 (qH rfl rfl) <| q9 (wl rfl rfl) <| qF <| qL rfl (fun hc6 => ?_) (fun hc6 => ?_)
    ·
     refine wQ w8 <| wE [(34, .pure _), (35, .pure _), (36, .pure _), (37, .pure _), (38, .pure _)] (by kernel_rfl) rfl rfl rfl wd (qC rfl (fun X => qM rfl) <| qC rfl (fun X => qQ rfl) <| qC rfl (fun X => qA rfl) <| qC rfl (fun X => qH rfl rfl) <| qC rfl (fun X => wZ rfl) <| ParH.nil rfl) ?_
     dsimp only [zQ, List.drop, List.length]
     refine zt (by kernel_rfl) (zR (q := (4, 0)) (v := (1 : Int)) rfl rfl rfl hos4) ?_
     rintro _ _ ⟨os5, hos5, rfl⟩
     refine wI <| qW ⟨(setStale (setStale (setStale n (2, 0)) ab) (4, 0), ((p, .cells (zI (setStale n (2, 0)) ma md ms u).toArray 90 (0, 0)) :: (ma, oa) :: (md, od) :: (ms, os5) :: C : qV)), ?_⟩ ?_
     · (try dsimp only); exact ⟨⟨ma, md, ms, oa, od, os5, u, C, rfl, hM3.a, hM3.d, hos5, hM3.g⟩, by rw [if_pos hc6], (hok3.setStale hpa).setStale (.inr (.inr (.inr (.inl rfl)))), hgl2⟩
     · (try dsimp only); exact we (by rw [hG]; simp [zI, setStale])
    ·
     refine qZ <| qW ⟨(setStale (setStale n (2, 0)) ab, ((p, .cells (zI (setStale n (2, 0)) ma md ms u).toArray 90 (0, 0)) :: (ma, oa) :: (md, od) :: (ms, os4) :: C : qV)), ?_⟩ ?_
     · (try dsimp only); exact ⟨⟨ma, md, ms, oa, od, os4, u, C, rfl, hM3.a, hM3.d, hos4, hM3.g⟩, by rw [if_neg hc6], (hok3.setStale hpa), hgl2⟩
     · (try dsimp only); exact we (by rw [hG]; simp [zI, setStale])
   rintro ⟨⟨m4, C4⟩, hcut⟩
   replace hcut : NodeC p m4 C4 ∧ m4 = (if ab.1 = 5 then setStale (setStale (setStale n (2, 0)) ab) (4, 0) else setStale (setStale n (2, 0)) ab) ∧ NOk m4 ∧ m4.gone.length ≤ 900001 := hcut
   obtain ⟨hn4, hm4, hok4, hgl4⟩ := hcut
   show Tr _ _ _ ([(0, .pointer (some ⟨p, 0, none⟩)), (4, .pointer (some ⟨b4, 0, none⟩))]) ([(b4, .cells [.int .i64 ab.1, .int .i64 ab.2].toArray 100 (0, 0))] :: C4 :: G :: F) _ _
   refine qO <| yx (L' := [(b4, .cells [.int .i64 ab.1, .int .i64 ab.2].toArray 100 (0, 0))] :: [(0, .cells [Value.int .i64 2, Value.int .i64 0].toArray e0 f0)] :: [(1, .cells [Value.int .i64 4, Value.int .i64 0].toArray e1 f1)] :: [(2, .cells [Value.int .i64 3, Value.int .i64 0].toArray e2 f2)] :: C4 :: F) (by rw [hG]; exact (yV (by intro f; simp only [List.flatten_cons, List.flatten_nil, List.append_nil, List.countP_append, List.countP_cons, List.countP_nil]; omega))) ?_
   refine qK <| q9 (wZ rfl) <| q9 (wZ rfl) <| qG (wK rfl rfl rfl) ?_
   rintro t41 _ ⟨b41, rfl, rfl⟩
   refine q9 (wD rfl) <| qB rfl <| qT <| zM (L' := [(b41, .cells [.int .i64 ab.1, .int .i64 ab.2, .int .i64 4, .int .i64 0].toArray 100 (0, 0))] :: [(0, .cells [Value.int .i64 2, Value.int .i64 0].toArray e0 f0)] :: [(1, .cells [Value.int .i64 4, Value.int .i64 0].toArray e1 f1)] :: [(2, .cells [Value.int .i64 3, Value.int .i64 0].toArray e2 f2)] :: C4 :: F) (qX _) <| zM (L' := [(b41, .cells [.int .i64 ab.1, .int .i64 ab.2, .int .i64 4, .int .i64 0].toArray 100 (0, 0))] :: C4 :: G :: F) (by rw [hG]; exact (yV (by intro f; simp only [List.flatten_cons, List.flatten_nil, List.append_nil, List.countP_append, List.countP_cons, List.countP_nil]; omega))) ?_
   refine zM (L' := [(b41, .cells (([ab, (4, 0)] : List (Int × Int)).flatMap zP ++ []).toArray 100 (0, 0))] :: C4 :: G :: F) (fun _ h => h) ?_
   refine qI <| qg <| wV (Γ := {pΓ : (Nat) × (NS) × (qV) // (fun (j : Nat) (m : NS) (Cm : qV) => j ≤ 2 ∧ NodeC p m Cm ∧ NOk m ∧ m.gone.length ≤ 900001 + j ∧ (([ab, (4, 0)] : List (Int × Int)).drop j).foldl loseIf m = ([ab, (4, 0)] : List (Int × Int)).foldl loseIf m4) pΓ.1 pΓ.2.1 pΓ.2.2}) (fun g => (fun (j : Nat) (m : NS) (Cm : qV) => [(0, .pointer (some ⟨p, 0, none⟩)), (41, .slice (some ⟨b41, 0, none⟩) 2 2), (42, .int .i64 2), (43, .int .i64 j)]) g.1.1 g.1.2.1 g.1.2.2) (fun g => (fun (j : Nat) (m : NS) (Cm : qV) => [(b41, .cells (([ab, (4, 0)] : List (Int × Int)).flatMap zP ++ []).toArray 100 (0, 0))] :: Cm :: G :: F) g.1.1 g.1.2.1 g.1.2.2) (fun g => (fun (j : Nat) (m : NS) (Cm : qV) => 2 - j) g.1.1 g.1.2.1 g.1.2.2) ⟨(0, m4, C4), by dsimp only; exact ⟨by omega, hn4, hok4, by omega, rfl⟩⟩ (qX _) ?_
   rintro ⟨⟨j, m, Cm⟩, hloop⟩
   replace hloop : j ≤ 2 ∧ NodeC p m Cm ∧ NOk m ∧ m.gone.length ≤ 900001 + j ∧ (([ab, (4, 0)] : List (Int × Int)).drop j).foldl loseIf m = ([ab, (4, 0)] : List (Int × Int)).foldl loseIf m4 := hloop
   obtain ⟨hj, hnm', hokm, hglm, hfold⟩ := hloop
   show Tr _ _ _ ([(0, .pointer (some ⟨p, 0, none⟩)), (41, .slice (some ⟨b41, 0, none⟩) 2 2), (42, .int .i64 2), (43, .int .i64 j)]) ([(b41, .cells (([ab, (4, 0)] : List (Int × Int)).flatMap zP ++ []).toArray 100 (0, 0))] :: Cm :: G :: F) _ _
   refine qP <| q9 (wL rfl rfl) <| qF <| qO <| qL rfl (fun hc9 => ?_) (fun hc9 => ?_)
   ·
    refine qZ <| qI <| qO <| qg <| qO ?_
    obtain ⟨q, hq⟩ : ∃ q, ([ab, (4, 0)] : List (Int × Int))[j]? = some q := ⟨_, List.getElem?_eq_getElem (by simp; omega)⟩
    rw [kR hq, List.foldl_cons] at hfold
    refine qK <| q9 (qw (j := j) (off := j * 2) rfl rfl rfl (by omega) (by simp)) ?_
    refine q9 (zC (j := j) y4 rfl hq rfl) <| qG (qn) ?_
    rintro t6 _ ⟨b6, rfl, rfl⟩
    refine qS (qq (l := [Value.int .i64 0, Value.int .i64 0]) (vs := [.int .i64 q.1, .int .i64 q.2]) rfl rfl rfl rfl rfl) <| qo <| qB rfl <| q9 (wZ rfl) <| q9 (wJ rfl (yj (Cm) (G) (K5 H p m Cm G hnm' hg hokm q))) <| q9 (kN rfl) <| qF <| y3 rfl (fun hc11 => ?_) (fun hc11 => ?_)
    ·
     refine qK <| qB rfl <| q9 (wZ rfl) <| qG (qx rfl (wc (Cm) (Vs p m Cm hnm' q (by omega)))) ?_
     rintro t53 _ ⟨rfl, Cm', hn', rfl⟩
     refine qT <| qf <| qI <| qK <| q9 (w9 rfl rfl (by omega)) <| qB rfl <| qT <| w5 ⟨(j + 1, jA m q, Cm'), ?_⟩ ?_ ?_
     ·
      try dsimp only
      have hk : WX m q = false := by simpa using hc11
      have hl : loseIf m q = jA m q := by unfold loseIf; rw [hk]; rfl
      rw [hl] at hfold
      exact ⟨by omega, hn', hokm.lose q, by have := Z7 m q; omega, hfold⟩
     · (try dsimp only); omega
     · (try dsimp only); exact qX _
    ·
     refine qZ <| qf <| qI <| qK <| q9 (w9 rfl rfl (by omega)) <| qB rfl <| qT <| w5 ⟨(j + 1, m, Cm), ?_⟩ ?_ ?_
     ·
      try dsimp only
      have hk : WX m q = true := by simpa using hc11
      have hl : loseIf m q = m := by unfold loseIf; rw [hk]; rfl
      rw [hl] at hfold
      exact ⟨by omega, hnm', hokm, by omega, hfold⟩
     · (try dsimp only); omega
     · (try dsimp only); exact qX _
   ·
    refine wb <| qr <| qt <| qj <| kH (Cm :: G :: F) (.inr rfl) rfl  ?_
    have hj2 : j = 2 := by omega
    subst hj2
    have e1 : ¬ ab = (2, 0) := by simpa [Prod.ext_iff] using hc4
    exact ⟨rfl, Cm, by rw [← hn0, show x4 n0 i = m from by unfold x4; rw [hab, if_neg e1, hn0, hm, ← hm4]; exact hfold.symm]; exact hnm', rfl⟩
theorem YN (n : Nat) : IsB (List.replicate n 0) := fun b hb => by rw [List.mem_replicate] at hb; omega
def _root_.Go.Nd.Sec.clr (s : Sec) (k : Nat) : Sec := yC s k (List.replicate (128 - k) 0)
theorem zeroCells_u8 (n : Nat) : (Builtin.zeroCells #[Value.int .u8 0] n).toList = u8s (List.replicate n 0) := by
  apply List.ext_getElem
  · simp [Builtin.zeroCells]
  · intro i h1 h2
    simp [Builtin.zeroCells, u8s, Nat.mod_one]
theorem clr_sec (s : Sec) (k : Nat) (h : k < 128) : (ww s).take k ++ (Builtin.zeroCells #[Value.int .u8 0] (128 - k)).toList ++ (ww s).drop (k + (128 - k) * 1) = ww (s.clr k) := by
  rw [zeroCells_u8]
  have := Vi s k (List.replicate (128 - k) 0) (by simp; omega) (YN _)
  unfold Go.Nd.Sec.clr
  rw [x6 (by simp; omega) (YN _), ← this]
  simp
theorem NOk.hole {n : NS} (h : NOk n) {i : Int} (hi : 0 ≤ i ∧ i < 1064) : NOk (x4 n i) := by
  have h2 : NOk (Proofs.YtjikpomndbkfgaaGreatDoor.setStale (jA (zy n i none) (1, i)) (2, 0)) := ((h.dataNone i).lose _).setStale (.inr (.inl rfl))
  unfold x4
  split
  · exact h2
  · simp only [List.foldl_cons, List.foldl_nil]
    refine NOk.loseIf (NOk.loseIf ?_ _) _
    split
    · exact (h2.setStale (QL hi)).setStale (.inr (.inr (.inr (.inl rfl))))
    · exact h2.setStale (QL hi)
theorem hole_gone (n : NS) (i : Int) : (x4 n i).gone.length ≤ n.gone.length + 3 := by
  have h1 : ∀ m k, (setStale m k).gone = m.gone := fun _ _ => rfl
  have h2 := Z7 (zy n i none) (1, i)
  have h3 : (zy n i none).gone = n.gone := rfl
  rw [h3] at h2
  unfold x4
  split
  · rw [h1]; omega
  · simp only [List.foldl_cons, List.foldl_nil]
    split
    · have a := QS (setStale (setStale (setStale (jA (zy n i none) (1, i)) (2, 0)) (zF i)) (4, 0)) (zF i)
      have b := QS (loseIf (setStale (setStale (setStale (jA (zy n i none) (1, i)) (2, 0)) (zF i)) (4, 0)) (zF i)) (4, 0)
      simp only [h1] at a; omega
    · have a := QS (setStale (setStale (jA (zy n i none) (1, i)) (2, 0)) (zF i)) (zF i)
      have b := QS (loseIf (setStale (setStale (jA (zy n i none) (1, i)) (2, 0)) (zF i)) (zF i)) (4, 0)
      simp only [h1] at a; omega
def jQ (n : NS) (g : Int → Option Sec) (size : Int) : Option NS :=
  if size < n.size ∧ size % 128 ≠ 0 ∧ xM n (zf size - 1) then (blk n g (zf size - 1)).map (fun s => zy n (zf size - 1) (some (s.clr (size % 128).toNat))) else some n
def Q9 (n : NS) (size : Int) : NS := (jI n).foldl (fun m i => if zf size - 1 < i then x4 m i else m) n
def QA (n : NS) (size : Int) : NS := if n.size ≠ size then { setStale n (2, 0) with size := size } else n
def kA (n : NS) (g : Int → Option Sec) (size : Int) : Int × NS :=
  if size < 0 then (1, n) else if 136192 < size then (12, n) else
  match jQ n g size with
  | none => (20, n)
  | some m => (0, QA (Q9 m size) size)
theorem Yk {s : Int} (h : 0 ≤ s ∧ s ≤ 136192) : -1 ≤ zf s - 1 ∧ zf s - 1 < 1064 := by unfold zf; split <;> omega
theorem blocks_mod {s : Int} (h : 0 ≤ s) (h2 : s % 128 ≠ 0) : 0 ≤ zf s - 1 := by unfold zf; split <;> omega
theorem Yp (H : jJ w0) (p : Nat) (n : NS) (Cn D G : qV) (hn : NodeC p n Cn) (hg : kn G) (hok : NOk n) (size : Int) (rv : Value) (g : Int → Option Sec) (hr : KC rv D g)
    (hsz : -9223372036854775808 ≤ size ∧ size ≤ 9223372036854775807) (hgl : n.gone.length ≤ 800000) :
    FnT Tryz.prog w0 13 #[.pointer (some ⟨p, 0, none⟩), .int .i64 size, rv] (Cn :: D :: G :: F)
      (fun v L' => ∃ Cn', v = .int .i64 (kA n g size).1 ∧ NodeC p (kA n g size).2 Cn' ∧ L' = Cn' :: D :: G :: F) := by
  obtain ⟨e0, f0, e1, f1, e2, f2, hG⟩ := id hg
  obtain ⟨ma, md, ms, oa, od, os, u, C, hM, hCn⟩ := hn.eq
  unfold zI at hCn
  refine qh (E0 := [(0, _), (1, _), (2, _)]) (N := 86) Tryz.func13 rfl rfl rfl rfl ?_
  refine qP <| qD rfl <| qF <| qO <| qg <| qP <| qB rfl <| q9 (wL rfl rfl) <| qD rfl <| qF <| qL rfl (fun hc1 => ?_) (fun hc1 => ?_)
  ·
   refine qP <| qD rfl <| qF <| qz <| wN <| w7 <| wF (Cn :: D :: G :: F) (.inl rfl) rfl (qu rfl) ?_
   exact ⟨Cn, by unfold kA; rw [if_pos hc1], by unfold kA; rw [if_pos hc1]; exact hn, rfl⟩
  ·
   refine qP <| qB rfl <| q9 (y9 rfl rfl) <| qD rfl <| qF <| qL rfl (fun hc3 => ?_) (fun hc3 => ?_)
   ·
    refine qP <| qD rfl <| qF <| qz <| wN <| w7 <| wF (Cn :: D :: G :: F) (.inl rfl) rfl (qu rfl) ?_
    exact ⟨Cn, by unfold kA; rw [if_neg hc1, if_pos hc3], by unfold kA; rw [if_neg hc1, if_pos hc3]; exact hn, rfl⟩
   ·
    refine qZ <| qf <| qI <| qO ?_
    have hbd := Yk (s := size) (by omega)
    obtain ⟨last, hlast⟩ : ∃ last, zf size - 1 = last := ⟨_, rfl⟩
    refine qK <| qB rfl <| q9 (wJ rfl (blocks_spec size hsz.2)) <| q9 (y1 rfl rfl (by omega)) <| qD rfl <| qT ?_
    rw [hlast] at hbd ⊢
    refine qI <| zb (Γ := {pΓ : (NS) × (qV) // (fun (n1 : NS) (C1 : qV) => NodeC p n1 C1 ∧ NOk n1 ∧ n1.gone.length ≤ 800000 ∧ jQ n g size = some n1) pΓ.1 pΓ.2}) (fun g => (fun (n1 : NS) (C1 : qV) => [(0, .pointer (some ⟨p, 0, none⟩)), (1, .int .i64 size), (2, rv), (7, .int .i64 last)]) g.1.1 g.1.2) (fun g => (fun (n1 : NS) (C1 : qV) => C1 :: D :: G :: F) g.1.1 g.1.2) ?_ ?_
    ·
     refine qP <| qB rfl <| q9 (xD rfl rfl (by omega) (by omega)) <| qD rfl <| qF <| zb (Γ := {pΓ : (Bool) // (fun (b : Bool) => b = true ↔ (size < n.size ∧ size % 128 ≠ 0 ∧ xM n last)) pΓ}) (fun g => (fun (b : Bool) => [(0, .pointer (some ⟨p, 0, none⟩)), (1, .int .i64 size), (2, rv), (7, .int .i64 last), (8, .int .i64 (size % 128)), (38, .bool b)]) g.1) (fun g => (fun (b : Bool) => Cn :: D :: G :: F) g.1) ?_ ?_
     ·
      refine yx (we (L' := [(p, .cells [.int .u32 n.num, .int .u32 n.ver, .int .i64 n.kind, .int .i64 n.size, .int .u32 n.time, .map (some ma), .map (some md), .map (some ms), u].toArray 90 (0, 0))] :: [(ma, oa)] :: [(md, od)] :: [(ms, os)] :: C :: D :: G :: F) (by rw [hCn]; simp)) ?_
      refine qK <| qB rfl <| qB rfl <| q9 (qQ rfl) <| q9 (qA rfl) <| q9 (qH rfl rfl) <| q9 (wL rfl rfl) <| qB rfl <| qY (s := 30) rfl (fun hg7_6 => ?_) (fun hg7_6 => ?_)
      ·
       refine qE rfl rfl (qM rfl) <| qE rfl rfl (wz rfl rfl) <| q9 (qk rfl rfl) <| qB rfl <| qY (s := 34) rfl (fun hg7_10 => ?_) (fun hg7_10 => ?_)
       ·
        refine qE rfl rfl (qM rfl) <| qE rfl rfl (qM rfl) <| qE rfl rfl (wJ rfl (W7 (L1 := Cn :: D :: G :: F) (has_spec p n Cn hn last) (by rw [hCn]; simp))) ?_
        refine q9 (qk rfl rfl) <| qT <| qW ⟨_, ?_⟩ ?_
        · (try dsimp only); first | exact ⟨fun h => ⟨by omega, by omega, of_decide_eq_true (p := xM n last) h⟩, fun h => decide_eq_true (p := xM n last) h.2.2⟩ | exact ⟨fun h => (by cases h), fun h => (by omega)⟩
        · (try dsimp only); exact we (by rw [hCn]; simp)
       ·
        refine qN rfl rfl rfl <| qN rfl rfl rfl <| qN rfl rfl rfl <| q9 (qU rfl rfl) <| qT <| qW ⟨_, ?_⟩ ?_
        · (try dsimp only); first | exact ⟨fun h => ⟨by omega, by omega, of_decide_eq_true (p := xM n last) h⟩, fun h => decide_eq_true (p := xM n last) h.2.2⟩ | exact ⟨fun h => (by cases h), fun h => (by omega)⟩
        · (try dsimp only); exact we (by rw [hCn]; simp)
      ·
       refine qN rfl rfl rfl <| qN rfl rfl rfl <| q9 (qU rfl rfl) <| qB rfl <| qN rfl rfl rfl <| qN rfl rfl rfl <| qN rfl rfl rfl <| q9 (qU rfl rfl) <| qT <| qW ⟨_, ?_⟩ ?_
       · (try dsimp only); first | exact ⟨fun h => ⟨by omega, by omega, of_decide_eq_true (p := xM n last) h⟩, fun h => decide_eq_true (p := xM n last) h.2.2⟩ | exact ⟨fun h => (by cases h), fun h => (by omega)⟩
       · (try dsimp only); exact we (by rw [hCn]; simp)
     rintro ⟨b, hcut⟩
     replace hcut : b = true ↔ (size < n.size ∧ size % 128 ≠ 0 ∧ xM n last) := hcut
     have hb := hcut
     show Tr _ _ _ ([(0, .pointer (some ⟨p, 0, none⟩)), (1, .int .i64 size), (2, rv), (7, .int .i64 last), (8, .int .i64 (size % 128)), (38, .bool b)]) (Cn :: D :: G :: F) _ _
     refine y3 rfl (fun hc6 => ?_) (fun hc6 => ?_)
     ·
      have hc := hb.1 hc6
      have hl0 : 0 ≤ last := hlast ▸ blocks_mod (by omega) hc.2.1
      have hT : jQ n g size = (blk n g last).map (fun s => zy n last (some (s.clr (size % 128).toNat))) := by unfold jQ; rw [hlast, if_pos hc]
      refine qP <| qB rfl <| qB rfl <| qB rfl <| q9 (wJ rfl (yj (Cn) (D) (JA p n Cn D hn last rv g hr))) <| qB rfl <| q9 (qi rfl rfl) <| q9 (qi rfl rfl) <| qG (qn) ?_
      rintro t9 _ ⟨b9, rfl, rfl⟩
      refine qS (qq rfl rfl (by simp) (by simp) (wt _)) ?_
      refine qD rfl <| qF <| qO <| qP <| qB rfl <| q9 (wz rfl rfl) <| qF <| qL rfl (fun hc9 => ?_) (fun hc9 => ?_)
      ·
       have hbk : blk n g last = none := by
         cases h : blk n g last with
         | none => rfl
         | some s => rw [h] at hc9; exact absurd rfl hc9
       refine qP <| qB rfl <| qD rfl <| qF <| qz <| w7 <| kD <| wF (Cn :: D :: G :: F) (.inl rfl) rfl (qu rfl) <| ⟨Cn, ?_, ?_, rfl⟩ <;> unfold kA <;> rw [if_neg hc1, if_neg hc3, hT, hbk] <;> first | rfl | exact hn
      ·
       obtain ⟨s, hbk⟩ : ∃ s, blk n g last = some s := by
         cases h : blk n g last with
         | none => rw [h] at hc9; exact absurd (by decide) hc9
         | some s => exact ⟨s, rfl⟩
       rw [hbk]
       obtain ⟨k, hk⟩ : ∃ k : Nat, size % 128 = k := ⟨(size % 128).toNat, by omega⟩
       rw [hk, Int.toNat_natCast] at hT
       refine qZ <| qI <| qP <| qB rfl <| q9 (kg (l := k) (h := 128) (kl := .i64) (kh := .i64) rfl (by rw [← hk]; rfl) rfl (by omega) (by omega)) ?_
       refine qS (op_clear (b := b9) (off := k) (n := 128 - k) (c := 128 - k) (z := .int .u8 0) (sz := 1) (r := ww (s.clr k)) (by rw [← ZR k 128 (by omega)]; rfl) (by omega) (by simp [Value.cells, Value.oneCell']) rfl (by simp; omega) (clr_sec s k (by omega))) ?_
       refine qF <| yx (L' := [(b9, .cells (ww (s.clr k)).toArray 55 (0, 0))] :: [(p, .cells [.int .u32 n.num, .int .u32 n.ver, .int .i64 n.kind, .int .i64 n.size, .int .u32 n.time, .map (some ma), .map (some md), .map (some ms), u].toArray 90 (0, 0))] :: [(ma, oa)] :: [(md, od)] :: [(ms, os)] :: C :: D :: G :: F) (we (by rw [hCn]; simp)) ?_
       refine wQ w8 <| wE [(51, .pure _), (52, .pure _), (53, .pure _), (54, .pure _), (55, .pure _), (56, .pure _)] (by kernel_rfl) rfl rfl rfl wd (qC rfl (fun X => qM rfl) <| qC rfl (fun X => qQ rfl) <| qC rfl (fun X => qA rfl) <| qC rfl (fun X => qH rfl rfl) <| qC rfl (fun X => qM rfl) <| qC rfl (fun X => wS rfl (by first | exact zk _ | simp)) <| ParH.nil rfl) ?_
       dsimp only [zQ, List.drop, List.length]
       refine zt (by kernel_rfl) (zR (q := last) (v := s.clr k) rfl rfl rfl hM.d) ?_
       rintro _ _ ⟨od', hod', rfl⟩
       refine wI <| qW ⟨(zy n last (some (s.clr k)), ((p, .cells (zI n ma md ms u).toArray 90 (0, 0)) :: (ma, oa) :: (md, od') :: (ms, os) :: C : qV)), ?_⟩ ?_
       · (try dsimp only); exact ⟨⟨ma, md, ms, oa, od', os, u, C, rfl, hM.a, hod', hM.s, hM.g⟩, hok.dataSome (by omega) _, hgl, by rw [hT, hbk]; rfl⟩
       · (try dsimp only); exact (fun w hw => we (by simp [zI]) w hw.tail)
     ·
      refine qZ <| qW ⟨(n, Cn), ?_⟩ ?_
      · (try dsimp only); exact ⟨hn, hok, hgl, by unfold jQ; rw [hlast, if_neg (fun h => by rw [hb.2 h] at hc6; cases hc6)]⟩
      · (try dsimp only); exact qX _
    rintro ⟨⟨n1, C1⟩, hcut⟩
    replace hcut : NodeC p n1 C1 ∧ NOk n1 ∧ n1.gone.length ≤ 800000 ∧ jQ n g size = some n1 := hcut
    obtain ⟨hn1, hok1, hgl1, hfirst⟩ := hcut
    show Tr _ _ _ ([(0, .pointer (some ⟨p, 0, none⟩)), (1, .int .i64 size), (2, rv), (7, .int .i64 last)]) (C1 :: D :: G :: F) _ _
    refine qO <| qO ?_
    obtain ⟨l, hl⟩ : ∃ l, jI n1 = l := ⟨_, rfl⟩
    have hll := Zz n1
    have hlr : ∀ x ∈ l, 0 ≤ x ∧ x < 1064 := fun x hx => KL (hl ▸ hx)
    rw [hl] at hll
    refine qK <| qB rfl <| qG (qx rfl (wc (C1) (xS H p n1 C1 hn1 hok1))) ?_
    rintro t58 _ ⟨C', hs, rfl⟩
    rw [hl] at hs
    obtain ⟨px, cx, rfl⟩ := hs.slice
    refine q9 (wD rfl) <| qB rfl <| qF <| qg <| wV (Γ := {pΓ : (Nat) × (NS) × (qV) // (fun (i : Nat) (m : NS) (Cm : qV) => i ≤ l.length ∧ NodeC p m Cm ∧ NOk m ∧ m.gone.length ≤ 800000 + 3 * i ∧ (l.drop i).foldl (fun m i => if last < i then x4 m i else m) m = l.foldl (fun m i => if last < i then x4 m i else m) n1) pΓ.1 pΓ.2.1 pΓ.2.2}) (fun g => (fun (i : Nat) (m : NS) (Cm : qV) => [(0, .pointer (some ⟨p, 0, none⟩)), (1, .int .i64 size), (7, .int .i64 last), (58, .slice px l.length cx), (59, .int .i64 l.length), (60, .int .i64 i)]) g.1.1 g.1.2.1 g.1.2.2) (fun g => (fun (i : Nat) (m : NS) (Cm : qV) => C' :: Cm :: D :: G :: F) g.1.1 g.1.2.1 g.1.2.2) (fun g => (fun (i : Nat) (m : NS) (Cm : qV) => l.length - i) g.1.1 g.1.2.1 g.1.2.2) ⟨(0, n1, C1), by dsimp only; exact ⟨by omega, hn1, hok1, by omega, rfl⟩⟩ (qX _) ?_
    rintro ⟨⟨i, m, Cm⟩, hloop⟩
    replace hloop : i ≤ l.length ∧ NodeC p m Cm ∧ NOk m ∧ m.gone.length ≤ 800000 + 3 * i ∧ (l.drop i).foldl (fun m i => if last < i then x4 m i else m) m = l.foldl (fun m i => if last < i then x4 m i else m) n1 := hloop
    obtain ⟨hi, hnm, hokm, hglm, hfold⟩ := hloop
    show Tr _ _ _ ([(0, .pointer (some ⟨p, 0, none⟩)), (1, .int .i64 size), (7, .int .i64 last), (58, .slice px l.length cx), (59, .int .i64 l.length), (60, .int .i64 i)]) (C' :: Cm :: D :: G :: F) _ _
    refine qP <| q9 (wL rfl rfl) <| qF <| qO <| qL rfl (fun hc14 => ?_) (fun hc14 => ?_)
    ·
     refine qZ <| qI <| qO <| qg <| qO ?_
     obtain ⟨q, hq⟩ : ∃ q, l[i]? = some q := ⟨_, List.getElem?_eq_getElem (by omega)⟩
     have hqr := hlr q (List.mem_of_getElem? hq)
     rw [kR hq, List.foldl_cons] at hfold
     refine qK <| qG (yP (j := i) rfl rfl hs (by omega) (by omega)) ?_
     rintro t62 _ ⟨b, cap, spare, hqc, rfl, hcap, hnc, rfl, rfl⟩
     refine q9 (qH rfl (show wX _ _ = some (.int .i64 q) by rw [zK, Nat.mul_one, List.getElem?_append_left (by simp [iV]; omega)]; simp [iV, hq])) ?_
     refine qD rfl <| qo <| qB rfl <| qB rfl <| q9 (y9 rfl rfl) <| qF <| qL rfl (fun hc16 => ?_) (fun hc16 => ?_)
     ·
      refine qK <| qB rfl <| qB rfl <| qG (qx rfl (k0 (Cm) (G) (hole_ok H p m Cm G hnm hg hokm q hqr (by omega)))) ?_
      rintro t69 _ ⟨rfl, Cm', hn', rfl⟩
      refine qT <| qf <| qI <| qK <| q9 (w9 rfl rfl (by omega)) <| qB rfl <| qT <| w5 ⟨(i + 1, x4 m q, Cm'), ?_⟩ ?_ ?_
      · (try dsimp only); rw [if_pos hc16] at hfold; exact ⟨by omega, hn', hokm.hole hqr, by have := hole_gone m q; omega, hfold⟩
      · (try dsimp only); omega
      · (try dsimp only); exact qX _
     ·
      refine qZ <| qf <| qI <| qK <| q9 (w9 rfl rfl (by omega)) <| qB rfl <| qT <| w5 ⟨(i + 1, m, Cm), ?_⟩ ?_ ?_
      · (try dsimp only); rw [if_neg hc16] at hfold; exact ⟨by omega, hnm, hokm, by omega, hfold⟩
      · (try dsimp only); omega
      · (try dsimp only); exact qX _
    ·
     refine wb <| qr <| qt <| qj <| qI <| zb (Γ := {pΓ : (qV) // (fun (Cm' : qV) => NodeC p (kA n g size).2 Cm' ∧ (kA n g size).1 = 0) pΓ}) (fun g => (fun (Cm' : qV) => []) g.1) (fun g => (fun (Cm' : qV) => Cm' :: D :: G :: F) g.1) ?_ ?_
     ·
      refine qO ?_
      rw [List.drop_of_length_le (by omega)] at hfold
      have hm2 : Q9 n1 size = m := by unfold Q9; rw [hlast, hl]; exact hfold.symm
      have hT2 : kA n g size = (0, QA m size) := by unfold kA; rw [if_neg hc1, if_neg hc3, hfirst]; dsimp only; rw [hm2]
      obtain ⟨ma, md, ms, oa, od, os, u, C, hMm, hCm⟩ := hnm.eq
      unfold zI at hCm
      obtain ⟨n0, hn0⟩ : ∃ n0, n0 = n := ⟨_, rfl⟩
      rw [← hn0] at hT2 ⊢
      obtain ⟨n, hnm'⟩ : ∃ n, n = m := ⟨_, rfl⟩
      rw [← hnm'] at hCm hMm hT2 hnm
      refine yx (L' := [(p, .cells [.int .u32 n.num, .int .u32 n.ver, .int .i64 n.kind, .int .i64 n.size, .int .u32 n.time, .map (some ma), .map (some md), .map (some ms), u].toArray 90 (0, 0))] :: [(ma, oa)] :: [(md, od)] :: [(ms, os)] :: C :: [(0, .cells [Value.int .i64 2, Value.int .i64 0].toArray e0 f0)] :: [(1, .cells [Value.int .i64 4, Value.int .i64 0].toArray e1 f1)] :: [(2, .cells [Value.int .i64 3, Value.int .i64 0].toArray e2 f2)] :: D :: F) (fun w hw => ((by rw [hCm, hG]; exact (yV (by intro f; simp only [List.flatten_cons, List.flatten_nil, List.append_nil, List.countP_append, List.countP_cons, List.countP_nil]; omega))) : ∀ w, Own w0 (Cm :: D :: G :: F) w → Own w0 ([(p, .cells [.int .u32 n.num, .int .u32 n.ver, .int .i64 n.kind, .int .i64 n.size, .int .u32 n.time, .map (some ma), .map (some md), .map (some ms), u].toArray 90 (0, 0))] :: [(ma, oa)] :: [(md, od)] :: [(ms, os)] :: C :: [(0, .cells [Value.int .i64 2, Value.int .i64 0].toArray e0 f0)] :: [(1, .cells [Value.int .i64 4, Value.int .i64 0].toArray e1 f1)] :: [(2, .cells [Value.int .i64 3, Value.int .i64 0].toArray e2 f2)] :: D :: F) w) w hw.tail) ?_
      refine qK <| qB rfl <| q9 (qQ rfl) <| q9 (qA rfl) <| q9 (qH rfl rfl) <| qB rfl <| q9 (wz rfl rfl) <| qF <| qL rfl (fun hc19 => ?_) (fun hc19 => ?_)
      ·
       refine qP <| qB rfl <| qB rfl <| q9 (qQ rfl) <| q9 (qA rfl) <| qS (ws rfl rfl rfl) <| qT ?_
       skip
       refine qI <| wQ w8 <| wE [(81, .pure _), (82, .pure _), (83, .pure _), (84, .pure _), (85, .pure _)] (by kernel_rfl) rfl rfl rfl wd (qC rfl (fun X => qM rfl) <| qC rfl (fun X => qQ rfl) <| qC rfl (fun X => qA rfl) <| qC rfl (fun X => qH rfl rfl) <| qC rfl (fun X => wZ rfl) <| ParH.nil rfl) ?_
       dsimp only [zQ, List.drop, List.length]
       refine zt (by kernel_rfl) (zR (q := (2, 0)) (v := (1 : Int)) rfl rfl rfl hMm.s) ?_
       rintro _ _ ⟨os', hos', rfl⟩
       refine wI <| qW ⟨((p, .cells (zI (QA n size) ma md ms u).toArray 90 (0, 0)) :: (ma, oa) :: (md, od) :: (ms, os') :: C : qV), ?_⟩ ?_
       · (try dsimp only); rw [hT2]; refine ⟨?_, rfl⟩; unfold QA; rw [if_pos hc19]; exact ⟨ma, md, ms, oa, od, os', u, C, rfl, hMm.a, hMm.d, hos', hMm.g⟩
       · (try dsimp only); exact (by rw [hG]; unfold QA; rw [if_pos hc19]; simp only [zI, setStale]; exact (yV (by intro f; simp only [List.flatten_cons, List.flatten_nil, List.append_nil, List.countP_append, List.countP_cons, List.countP_nil]; omega)))
      ·
       refine qZ <| qW ⟨Cm, ?_⟩ ?_
       · (try dsimp only); rw [hT2]; refine ⟨?_, rfl⟩; unfold QA; rw [if_neg hc19]; exact hnm
       · (try dsimp only); exact (by rw [hCm, hG]; exact (yV (by intro f; simp only [List.flatten_cons, List.flatten_nil, List.append_nil, List.countP_append, List.countP_cons, List.countP_nil]; omega)))
     rintro ⟨Cm', hcut⟩
     replace hcut : NodeC p (kA n g size).2 Cm' ∧ (kA n g size).1 = 0 := hcut
     obtain ⟨hend, hend0⟩ := hcut
     show Tr _ _ _ ([]) (Cm' :: D :: G :: F) _ _
     refine qP <| qD rfl <| qF <| qz <| wF (Cm' :: D :: G :: F) (.inl rfl) rfl (qu rfl) ?_
     exact ⟨Cm', by rw [hend0], hend, rfl⟩
end
end Go.Proofs.YtjikpomndbkfgaaGreatDoor
namespace Go.Sx
open Go
section
variable {P : Program} {N : Nat} {w0 : World} {E : Env} {L : Res}
theorem run_equalIn_mapNil {w : World} (d : Nat) (t k e : TypeId) (p : Option Nat) (h : P.underlying t = some (.map k e)) :
    (Op.equalIn (d + 1) t (.map p) (.map none)).run P w = .ok p.isNone w := by
  cases p <;> simp [Op.equalIn, wA h]
theorem run_equalIn_sliceNil {w : World} (d : Nat) (t e : TypeId) (p : Option Addr) (n c : Nat) (h : P.underlying t = some (.slice e)) :
    (Op.equalIn (d + 1) t (.slice p n c) (.slice none 0 0)).run P w = .ok p.isNone w := by
  cases p <;> simp [Op.equalIn, wA h]
theorem run_eql_mapNil {w : World} (t k e : TypeId) (p : Option Nat) (h : P.underlying t = some (.map k e)) :
    (binOp .eql t (.map p) (.map none)).run P w = .ok (.bool p.isNone) w := by
  simp only [binOp]
  simp [show Op.equal t (.map p) (.map none) = Op.equalIn (9999 + 1) t (.map p) (.map none) from rfl, run_equalIn_mapNil 9999 t k e p h]
theorem run_eql_sliceNil {w : World} (t e : TypeId) (p : Option Addr) (n c : Nat) (h : P.underlying t = some (.slice e)) :
    (binOp .eql t (.slice p n c) (.slice none 0 0)).run P w = .ok (.bool p.isNone) w := by
  simp only [binOp]
  simp [show Op.equal t (.slice p n c) (.slice none 0 0) = Op.equalIn (9999 + 1) t (.slice p n c) (.slice none 0 0) from rfl, run_equalIn_sliceNil 9999 t e p n c h]
theorem Zt {x y : Operand} {t yt ty k e : TypeId} {p : Option Nat} (hx : opv E x = some (.map p)) (hy : opv E y = some (.map none)) (h : P.underlying t = some (.map k e)) : Op1 P N w0 E L (.binOp .eql t x y yt) ty (.bool p.isNone) L :=
  .of_run fun o a w h1 _ h3 h4 => ⟨w, by
    have hg : (eqGuard .eql t x y (.map p) (.map none)).run P w = .ok () w := rfl
    rw [execOp, h1]
    simp only [Sem.run_bind, h3.eval hx, h3.eval hy, hg, Result.andThen_ok, run_eql_mapNil t k e p h]
    rfl, h4⟩
theorem Wi {x y : Operand} {t yt ty e : TypeId} {p : Option Addr} {n c : Nat} (hx : opv E x = some (.slice p n c)) (hy : opv E y = some (.slice none 0 0)) (h : P.underlying t = some (.slice e)) : Op1 P N w0 E L (.binOp .eql t x y yt) ty (.bool p.isNone) L :=
  .of_run fun o a w h1 _ h3 h4 => ⟨w, by
    have hg : (eqGuard .eql t x y (.slice p n c) (.slice none 0 0)).run P w = .ok () w := rfl
    rw [execOp, h1]
    simp only [Sem.run_bind, h3.eval hx, h3.eval hy, hg, Result.andThen_ok, run_eql_sliceNil t e p n c h]
    rfl, h4⟩
theorem Wh {x : Operand} {t xT k e ty : TypeId} {v : Value} (hx : opv E x = some (.iface t v)) (h : P.underlying t = some (.map k e)) : Op1 P N w0 E L (.typeAssert x xT t false) ty v L :=
  .of_run fun o a w h1 _ h3 h4 => ⟨w, by
    have hb : (Instr.typeAssert (.iface t v) xT t false).run P w = .ok v w := by
      simp [Instr.typeAssert, wA h, go_sem, Result.andThen]
    rw [execOp, h1]
    simp [h3.eval hx, hb, Sem.run_bind, Result.andThen], h4⟩
theorem Zs {args : List Operand} {f t r ty : Nat} {tys : Array TypeId} {fn : Func} {es : Array MapEntry} {clock : Nat} {S : Obj → Res} (hargs : ji E args = some [.iface t (.map (some r))]) [ha : At L r (.map es clock) S]
    (hf : P.funcs[f]? = some fn) (hname : (fn.name == "runtime.NumGoroutine") = false) (hb : fn.body.isNone = true) (hn : Extern.findNext fn = none) (he : Extern.find fn = some Extern.MapsClone.clone) :
    OpT P N w0 E L (.call ⟨.value (.func f), args.toArray, tys⟩) ty (fun v L' => ∃ q, v = .iface t (.map (some q)) ∧ L' = [(q, .map es clock)] :: L) :=
  .of_runE fun o a w h1 _ h3 h4 => ⟨_, _, { w with heap := w.heap.push (.map es clock) }, by
    have hg := h4.get ha
    have hc : (Extern.MapsClone.clone #[.iface t (.map (some r))]).run P w = .ok (.iface t (.map (some w.heap.size))) (w.alloc (.map es clock)) := by
      have e : Extern.MapsClone.clone #[.iface t (.map (some r))] = (getObj r >>= fun o => match o with
          | .map entries clock => (newObj (.map entries clock) >>= fun n => pure (.iface t (.map (some n))))
          | _ => stuck "maps.clone: a map expected") := rfl
      rw [e]
      simp [MapKept.run_getObj_map hg, Result.andThen, go_sem]
    have hrun : (callFunc f #[.iface t (.map (some r))]).run P w = .ok (.value (.iface t (.map (some w.heap.size)))) (w.alloc (.map es clock)) := by
      rw [run_callFunc_extern hf hname hb hn he, hc]; rfl
    have hgo : (execOp a.eval o).run P w = (callFunc f [.iface t (.map (some r))].toArray).run P w := by
      rw [execOp, h1]; simp [resolve, Act.eval, Deferred.ofValue, invoke, QJ h3 _ _ hargs]
    exact hgo.trans hrun, ⟨_, rfl, rfl⟩, h4.alloc _⟩
theorem ZG {ops os : List Oper} {items : List (Nat × PItem)} {k j d g dg : Nat} {b : Bool} {op : Op} {ty : TypeId} {pos : String} {af : Array Edge} {A : qV} {G : Value → qV → Prop}
    (hi : items[j]? = some (d, .act A G)) (hg : yz ops g = some dg) (hl : yy E dg = some (.bool b)) (h : ∀ X, OpT P N w0 (Y3 items k af.toList E) (A :: X :: L) op ty (fun v' L' => ∃ C, G v' C ∧ L' = C :: X :: L)) (t : ParH P N w0 ops items k E L (j + 1) os) :
    ParH P N w0 ops items k E L j (⟨some d, op, ty, pos, af, some (g, b)⟩ :: os) :=
  .cons ⟨d, _, hi, rfl, .inr ⟨A, G, rfl, by simp [x8, hg, hl], h⟩⟩ t
theorem VN {f : FuncId} {args : Array Value} {F : Res} {G : Value → qV → Prop} (c1 c2 : qV) [ht : Take L [c1, c2] F] (h : FnT P w0 f args (c1 :: c2 :: F) (fun v L' => ∃ C, G v C ∧ L' = C :: c1 :: c2 :: F)) : FnT P w0 f args L (fun v L' => ∃ C, G v C ∧ L' = C :: L) :=
  (h.pre fun _ hw => hw.perm ht.perm).post fun v L' ⟨C, h1, h2⟩ => ⟨_, ⟨C, h1, rfl⟩, by subst h2; exact fun w hw => hw.perm (by simpa using List.Perm.append_left C ht.perm.symm)⟩
theorem W6 {f : FuncId} {args : Array Value} {F : Res} {G : Value → qV → Prop} (c1 : qV) [ht : Take L [c1] F] (h : FnT P w0 f args (c1 :: F) (fun v L' => ∃ C, G v C ∧ L' = C :: c1 :: F)) : FnT P w0 f args L (fun v L' => ∃ C, G v C ∧ L' = C :: L) :=
  (h.pre fun _ hw => hw.perm ht.perm).post fun v L' ⟨C, h1, h2⟩ => ⟨_, ⟨C, h1, rfl⟩, by subst h2; exact fun w hw => hw.perm (by simpa using List.Perm.append_left C ht.perm.symm)⟩
section
variable {K V : Type} [DecidableEq K]
theorem WE {x y : Operand} {t kt et ty r : Nat} {enc : K → Value} {val : V → Value} {f : K → Option V} {ob : Obj} {S : Obj → Res} {z v : V} {q : K} [ht : jq P t kt et] [hz : TyZero P et (val z)] [hk : KeyOf P kt enc]
    (hx : opv E x = some (.map (some r))) (hy : opv E y = some (enc q)) [ha : At L r ob S] (ho : MapF enc val f ob) (hv : (f q).getD z = v) :
    Op1 P N w0 E L (.lookup t x y false) ty (val v) L := by subst hv; exact yQ hx hy ho
theorem KU {enc : K → Value} {val : V → Value} {al : List (K × V)} {f : K → Option V} {q : K} {v : V} {st : Nat} {o : Obj} (h : MQ enc val (jj al q v) q st o) (hag : ∀ k, yB al k = f k) : MapF enc val (upd f q (some v)) o := by
  obtain ⟨es, clock, i, e, he, _⟩ := h
  exact ⟨_, ⟨es, clock, e, he⟩, fun k => by rw [yn]; unfold upd; split <;> simp [hag]⟩
end
theorem j5 {Q : Exit → Act → World → Prop} {ops os : List Oper} {d g j : Nat} {t : Bool} {op : Op} {ty : TypeId} {pos : String} {af : Array Edge}
    (hj : yz ops j = some g) (hv : yy E g = some undef)
    (k : TrOs P N w0 ops ((d, undef) :: E) L os Q) (hd : Nat.blt d N = true := by rfl) :
    TrOs P N w0 ops E L (⟨some d, op, ty, pos, af, some (j, t)⟩ :: os) Q :=
  ⟨fun a w ha hw => by
    show (if Region.wanted _ _ then _ else _)
    have hy : yielded ops.toArray a.tmps j = none := by
      have h1 : ((ops.toArray)[j]?).bind (·.dst) = some g := by simpa [yz] using hj
      unfold yielded
      rw [h1]
      simp only [Option.bind_some, ha.at_ g _ hv]
      rfl
    have : ¬ Region.wanted (⟨some d, op, ty, pos, af, some (j, t)⟩ : Oper) (yielded ops.toArray a.tmps) = true := by
      simp only [Region.wanted, hy]
      simp
    rw [if_neg this]
    exact k.h _ _ (ha.put (dst := some d) hd _) hw⟩
end
end Go.Sx
namespace Go.Proofs.YtjikpomndbkfgaaGreatDoor
open Go Go.Sx Go.Nd
set_option maxRecDepth 10000
section
variable {w0 : World} {L F : Res}
theorem Km {K V : Type} [DecidableEq K] {enc : K → Value} {val : V → Value} {f : K → Option V} {o : Obj} (h : MapF enc val f o) : ∃ es clock, o = .map es clock := by
  obtain ⟨al, ⟨es, clock, e, _⟩, _⟩ := h
  exact ⟨_, _, e⟩
theorem ZB (r : Nat) (o : Obj) (f : Int × Int → Option Int) (hf : MapF yO (Value.int .i64) f o) :
    FnT Tryz.prog w0 53 #[.map (some r)] ([(r, o)] :: F) (fun v L' => ∃ q, v = .map (some q) ∧ L' = [(q, o)] :: [(r, o)] :: F) := by
  obtain ⟨es, clock, rfl⟩ := Km hf
  refine qh (E0 := [(0, _)]) (N := 9) Tryz.func53 rfl rfl rfl rfl ?_
  refine qP <| qD rfl <| qF <| qO <| qP <| qB rfl <| q9 (Zt rfl rfl Tryz.underlying88) <| qF <| wU rfl <| qZ <| qI <| qP <| qB rfl <| q9 (jd rfl Tryz.underlying88 rfl) <| qG (Zs (r := r) rfl Tryz.func88 (by kernel_rfl) (by kernel_rfl) (by kernel_rfl) (by kernel_rfl)) ?_
  rintro t7 _ ⟨q, rfl, rfl⟩
  refine q9 (Wh rfl Tryz.underlying88) <| qD rfl <| qF <| qz <| zn (.inl rfl) rfl (qu rfl) ?_
  exact ⟨q, rfl, rfl⟩
theorem cloneD_ok (r : Nat) (o : Obj) (f : Int → Option Sec) (hf : MapF (Value.int .i64) jH f o) :
    FnT Tryz.prog w0 54 #[.map (some r)] ([(r, o)] :: F) (fun v L' => ∃ q, v = .map (some q) ∧ L' = [(q, o)] :: [(r, o)] :: F) := by
  obtain ⟨es, clock, rfl⟩ := Km hf
  refine qh (E0 := [(0, _)]) (N := 9) Tryz.func54 rfl rfl rfl rfl ?_
  refine qP <| qD rfl <| qF <| qO <| qP <| qB rfl <| q9 (Zt rfl rfl Tryz.underlying42) <| qF <| wU rfl <| qZ <| qI <| qP <| qB rfl <| q9 (jd rfl Tryz.underlying42 rfl) <| qG (Zs (r := r) rfl Tryz.func88 (by kernel_rfl) (by kernel_rfl) (by kernel_rfl) (by kernel_rfl)) ?_
  rintro t7 _ ⟨q, rfl, rfl⟩
  refine q9 (Wh rfl Tryz.underlying42) <| qD rfl <| qF <| qz <| zn (.inl rfl) rfl (qu rfl) ?_
  exact ⟨q, rfl, rfl⟩
def YP (xs : List (Int × Int)) : List (Int × Int) := xs.mergeSort (fun a b => decide (kj a b ≤ 0))
def XH : Int → Option Int := upd (upd (upd (upd (upd (fun _ => none) 1 (some 0)) 5 (some 1)) 3 (some 2)) 4 (some 3)) 2 (some 4)
structure xo : Prop where
  sortF : ∀ (w0 : World) (F : Res) (u : Value) (xs : List (Int × Int)) (C : qV) (b r : Nat) (o : Obj), SlC 100 2 u xs.length (xs.flatMap zP) C → xs.length ≤ 1000000 → (∀ x ∈ xs, wC x) → MapF (Value.int .i64) (Value.int .i64) XH o →
    FnT Tryz.prog w0 79 #[u, .func (.func 80) #[] #[.pointer (some ⟨b, 0, none⟩)]] (C :: [(b, .cells [Value.map (some r)].toArray 150 (0, 0))] :: [(r, o)] :: F)
      (fun v L' => v = .tuple #[] ∧ ∃ C', SlC 100 2 u xs.length ((YP xs).flatMap zP) C' ∧ L' = C' :: [(b, .cells [Value.map (some r)].toArray 150 (0, 0))] :: [(r, o)] :: F)
def QY (n : NS) (k : Int × Int) : Prop := n.stale k ≠ none ∨ ∃ i, n.data i ≠ none ∧ (k = (1, i) ∨ k = zF i)
def JO (n : NS) (k : Int × Int) : Prop := QY n k ∨ (k = (4, 0) ∧ ∃ q, QY n q ∧ q.1 = 5)
def Zf (n : NS) (k : Int × Int) : Prop := JO n k ∨ (k = (2, 0) ∧ ∃ q, JO n q)
def Xk (n : NS) (k : Int × Int) : Prop := k.1 = 1 ∨ k.1 = 2 ∨ WX n k = true
open Classical in
noncomputable def yE (n : NS) : List (Int × Int) := allParts.filter (fun k => decide (Zf n k ∧ Xk n k))
theorem JC {n : NS} (h : NOk n) {k : Int × Int} (hb : QY n k) : wC k := by
  rcases hb with hb | ⟨i, hi, rfl | rfl⟩
  · exact h.stale k hb
  · exact .inl ⟨rfl, (h.data i hi).1, (h.data i hi).2⟩
  · exact QL (h.data i hi)
theorem YD {n : NS} (h : NOk n) {k : Int × Int} (hb : Zf n k) : wC k := by
  rcases hb with (hb | ⟨rfl, _⟩) | ⟨rfl, _⟩
  · exact JC h hb
  · exact .inr (.inr (.inr (.inl rfl)))
  · exact .inr (.inl rfl)
section
variable {n : NS} {al : List (Int × Sec)} {al2 : List ((Int × Int) × Int)} {vis : List Nat} {i : Nat} {f h : Int × Int → Option Int}
theorem X9 {β : Type} {f : Int × Int → Option β} {q : Int × Int} {v : β} (k : Int × Int) : upd f q (some v) k ≠ none ↔ f k ≠ none ∨ k = q := by
  unfold upd
  split
  · rename_i e; simp [e]
  · rename_i e; simp [e]
theorem all0_step {q : Int × Sec} (hq : al[i]? = some q) (hf : ∀ k, f k ≠ none ↔ n.stale k ≠ none ∨ ∃ i, ko al vis i ∧ (k = (1, i) ∨ k = zF i)) :
    ∀ k, upd (upd f (1, q.1) (some 1)) (zF q.1) (some 1) k ≠ none ↔ n.stale k ≠ none ∨ ∃ j, ko al (vis ++ [i]) j ∧ (k = (1, j) ∨ k = zF j) := fun k => by
  rw [X9, X9, hf]
  constructor
  · rintro (((h | ⟨j, h1, h2⟩) | h) | h)
    · exact .inl h
    · exact .inr ⟨j, (kG hq j).2 (.inl h1), h2⟩
    · exact .inr ⟨q.1, (kG hq _).2 (.inr rfl), .inl h⟩
    · exact .inr ⟨q.1, (kG hq _).2 (.inr rfl), .inr h⟩
  · rintro (h | ⟨j, h1, h2⟩)
    · exact .inl (.inl (.inl h))
    · rcases (kG hq j).1 h1 with h1 | rfl
      · exact .inl (.inl (.inr ⟨j, h1, h2⟩))
      · rcases h2 with h2 | h2
        · exact .inl (.inr h2)
        · exact .inr h2
theorem all0_end {od io : Obj} {md : Nat} (hio : IterOk md od al.length vis io) (hfin : vis.length = al.length) (hag : ∀ k, yB al k = n.data k)
    (hf : ∀ k, f k ≠ none ↔ n.stale k ≠ none ∨ ∃ i, ko al vis i ∧ (k = (1, i) ∨ k = zF i)) : ∀ k, f k ≠ none ↔ QY n k := fun k => by
  rw [hf]
  have hv : ∀ i, ko al vis i ↔ n.data i ≠ none := fun i => by
    rw [Qk hio hfin i, hag]
    cases n.data i <;> simp
  unfold QY
  simp only [hv]
theorem Jv {q : (Int × Int) × Int} (hq : al2[i]? = some q) (hh : ∀ k, h k ≠ none ↔ f k ≠ none ∨ (k = (4, 0) ∧ ∃ x, ko al2 vis x ∧ x.1 = 5)) :
    (q.1.1 = 5 → ∀ k, upd h (4, 0) (some 1) k ≠ none ↔ f k ≠ none ∨ (k = (4, 0) ∧ ∃ x, ko al2 (vis ++ [i]) x ∧ x.1 = 5)) ∧
    (¬ q.1.1 = 5 → ∀ k, h k ≠ none ↔ f k ≠ none ∨ (k = (4, 0) ∧ ∃ x, ko al2 (vis ++ [i]) x ∧ x.1 = 5)) := by
  refine ⟨fun h5 k => ?_, fun h5 k => ?_⟩
  · rw [X9, hh]
    constructor
    · rintro ((h | ⟨h1, x, h2, h3⟩) | h)
      · exact .inl h
      · exact .inr ⟨h1, x, (kG hq x).2 (.inl h2), h3⟩
      · exact .inr ⟨h, q.1, (kG hq _).2 (.inr rfl), h5⟩
    · rintro (h | ⟨h1, _⟩)
      · exact .inl (.inl h)
      · exact .inr h1
  · rw [hh]
    constructor
    · rintro (h | ⟨h1, x, h2, h3⟩)
      · exact .inl h
      · exact .inr ⟨h1, x, (kG hq x).2 (.inl h2), h3⟩
    · rintro (h | ⟨h1, x, h2, h3⟩)
      · exact .inl h
      · rcases (kG hq x).1 h2 with h2 | rfl
        · exact .inr ⟨h1, x, h2, h3⟩
        · exact absurd h3 h5
theorem all1_end {ao io : Obj} {r : Nat} (hio : IterOk r ao al2.length vis io) (hfin : vis.length = al2.length) (hag : ∀ k, yB al2 k = f k) (hf : ∀ k, f k ≠ none ↔ QY n k)
    (hh : ∀ k, h k ≠ none ↔ f k ≠ none ∨ (k = (4, 0) ∧ ∃ x, ko al2 vis x ∧ x.1 = 5)) : ∀ k, h k ≠ none ↔ JO n k := fun k => by
  rw [hh, hf]
  have hv : ∀ x, ko al2 vis x ↔ QY n x := fun x => by
    rw [Qk hio hfin x, hag, ← hf]
    cases f x <;> simp
  unfold JO
  simp only [hv]
theorem all2_end {al3 : List ((Int × Int) × Int)} (hag : ∀ k, yB al3 k = h k) (hh : ∀ k, h k ≠ none ↔ JO n k) :
    ((0 : Int) < al3.length → ∀ k, upd h (2, 0) (some 1) k ≠ none ↔ Zf n k) ∧ (¬ (0 : Int) < al3.length → ∀ k, h k ≠ none ↔ Zf n k) := by
  refine ⟨fun hl k => ?_, fun hl k => ?_⟩
  · rw [X9, hh]
    unfold Zf
    refine or_congr_right ⟨fun e => ⟨e, ?_⟩, fun e => e.1⟩
    cases al3 with
    | nil => simp at hl
    | cons p al3 => exact ⟨p.1, (hh _).1 (by rw [← hag]; simp [yB])⟩
  · rw [hh]
    unfold Zf
    refine ⟨.inl, fun e => ?_⟩
    rcases e with e | ⟨_, q, hq⟩
    · exact e
    · have : al3 = [] := by cases al3 with | nil => rfl | cons p l => simp at hl
      subst this
      have := (hh q).2 hq
      rw [← hag] at this
      exact absurd rfl this
end
def kinds5 : List Int := [1, 5, 3, 4, 2]
section
variable {n : NS} {al : List ((Int × Int) × Int)} {vis : List Nat} {i : Nat} {h : Int × Int → Option Int} {out : List (Int × Int)} {ks : Int → Prop} {kd : Int}
def K9 (n : NS) (h : Int × Int → Option Int) (ks : Int → Prop) (kd : Int) (vs : Int × Int → Prop) (out : List (Int × Int)) : Prop := out.Nodup ∧ ∀ k, k ∈ out ↔ h k ≠ none ∧ Xk n k ∧ (ks k.1 ∨ (k.1 = kd ∧ vs k))
theorem outIs_in {q : (Int × Int) × Int} (hk : (zU al).Nodup) (hag : ∀ k, yB al k = h k) (hni : i ∉ vis) (hks : ¬ ks kd) (hq : al[i]? = some q) (hsel : q.1.1 = kd ∧ Xk n q.1) (ho : K9 n h ks kd (ko al vis) out) : K9 n h ks kd (ko al (vis ++ [i])) (out ++ [q.1]) := by
  obtain ⟨h1, h2⟩ := ho
  have hqm : h q.1 ≠ none := by rw [← hag, xJ hk (List.mem_of_getElem? hq)]; simp
  refine ⟨?_, fun k => ?_⟩
  · rw [List.nodup_append]
    refine ⟨h1, by simp, fun a ha b hb => ?_⟩
    obtain rfl := List.mem_singleton.1 hb
    rintro rfl
    rcases ((h2 _).1 ha).2.2 with h3 | ⟨_, h3⟩
    · exact hks (hsel.1 ▸ h3)
    · exact Xg hk hq hni h3
  · rw [List.mem_append, List.mem_singleton, h2, kG hq]
    constructor
    · rintro (⟨h3, h4, h5 | ⟨h5, h6⟩⟩ | rfl)
      · exact ⟨h3, h4, .inl h5⟩
      · exact ⟨h3, h4, .inr ⟨h5, .inl h6⟩⟩
      · exact ⟨hqm, hsel.2, .inr ⟨hsel.1, .inr rfl⟩⟩
    · rintro ⟨h3, h4, h5 | ⟨h5, h6 | h6⟩⟩
      · exact .inl ⟨h3, h4, .inl h5⟩
      · exact .inl ⟨h3, h4, .inr ⟨h5, h6⟩⟩
      · exact .inr h6
theorem outIs_out {q : (Int × Int) × Int} (hq : al[i]? = some q) (hsel : ¬ (q.1.1 = kd ∧ Xk n q.1)) (ho : K9 n h ks kd (ko al vis) out) : K9 n h ks kd (ko al (vis ++ [i])) out := by
  obtain ⟨h1, h2⟩ := ho
  refine ⟨h1, fun k => ?_⟩
  rw [h2, kG hq]
  constructor
  · rintro ⟨h3, h4, h5 | ⟨h5, h6⟩⟩
    · exact ⟨h3, h4, .inl h5⟩
    · exact ⟨h3, h4, .inr ⟨h5, .inl h6⟩⟩
  · rintro ⟨h3, h4, h5 | ⟨h5, h6 | rfl⟩⟩
    · exact ⟨h3, h4, .inl h5⟩
    · exact ⟨h3, h4, .inr ⟨h5, h6⟩⟩
    · exact absurd ⟨h5, h4⟩ hsel
end
def MS (n : NS) (h : Int × Int → Option Int) (j : Nat) (out : List (Int × Int)) : Prop := out.Nodup ∧ ∀ k, k ∈ out ↔ h k ≠ none ∧ Xk n k ∧ k.1 ∈ kinds5.take j
theorem outK_start {n : NS} {h : Int × Int → Option Int} {j : Nat} {out : List (Int × Int)} {al : List ((Int × Int) × Int)} (kd : Int) (ho : MS n h j out) : K9 n h (fun k => k ∈ kinds5.take j) kd (ko al []) out :=
  ⟨ho.1, fun k => by rw [ho.2]; simp only [Wa, and_false, or_false]⟩
theorem kinds5_fresh {j : Nat} {kd : Int} (hj : kinds5[j]? = some kd) : kd ∉ kinds5.take j := by
  have hn : kinds5.Nodup := by decide
  intro hm
  obtain ⟨i, hi, e⟩ := List.mem_iff_getElem.1 hm
  have hlt := (List.getElem?_eq_some_iff.1 hj).1
  simp at hi
  have : kinds5[i]? = kinds5[j]? := by rw [hj, ← e]; simp
  have := (List.getElem?_inj (by omega) hn).1 this
  omega
theorem outIs_end {n : NS} {h : Int × Int → Option Int} {j : Nat} {out : List (Int × Int)} {al : List ((Int × Int) × Int)} {vis : List Nat} {kd : Int} {r : Nat} {ao io : Obj} (hj : kinds5[j]? = some kd) (hio : IterOk r ao al.length vis io) (hfin : vis.length = al.length) (hag : ∀ k, yB al k = h k)
    (ho : K9 n h (fun k => k ∈ kinds5.take j) kd (ko al vis) out) : MS n h (j + 1) out := by
  refine ⟨ho.1, fun k => ?_⟩
  rw [ho.2, List.take_add_one, hj]
  have hv : ko al vis k ↔ h k ≠ none := by
    rw [Qk hio hfin k, hag]
    cases h k <;> simp
  rw [hv]
  simp only [Option.toList_some, List.mem_append, List.mem_singleton]
  constructor
  · rintro ⟨h3, h4, h5 | ⟨h5, h6⟩⟩
    · exact ⟨h3, h4, .inl h5⟩
    · exact ⟨h3, h4, .inr h5⟩
  · rintro ⟨h3, h4, h5 | h5⟩
    · exact ⟨h3, h4, .inl h5⟩
    · exact ⟨h3, h4, .inr ⟨h5, h3⟩⟩
open Classical in
theorem srtP_parts {n : NS} (hok : NOk n) {h : Int × Int → Option Int} {out : List (Int × Int)} (hh : ∀ k, h k ≠ none ↔ Zf n k) (ho : MS n h 5 out) : YP out = yE n := by
  have hok' : ∀ x ∈ out, wC x := fun x hx => YD hok ((hh x).1 ((ho.2 x).1 hx).1)
  have hperm : (YP out).Perm out := List.mergeSort_perm out _
  have hsorted : (YP out).Pairwise (fun a b => kj a b ≤ 0) := by
    have hx : (YP out).Pairwise (fun a b => decide (kj a b ≤ 0) = true) := by
      have key : ∀ (l : List {x : Int × Int // wC x}), (l.mergeSort (fun a b => decide (kj a.1 b.1 ≤ 0))).Pairwise (fun a b => decide (kj a.1 b.1 ≤ 0) = true) := fun l =>
        List.pairwise_mergeSort (fun a b c h1 h2 => by simp only [decide_eq_true_eq] at *; exact WN a.2 b.2 c.2 h1 h2) (fun a b => by simp only [Bool.or_eq_true, decide_eq_true_eq]; exact cmpP_total _ _) l
      have e : YP out = ((out.attachWith wC hok').mergeSort (fun a b => decide (kj a.1 b.1 ≤ 0))).map (·.1) := by
        rw [List.map_mergeSort (r := fun a b => decide (kj a.1 b.1 ≤ 0)) (s := fun a b => decide (kj a b ≤ 0)) (f := fun x : {x : Int × Int // wC x} => x.1) (l := out.attachWith wC hok') (fun _ _ _ _ => rfl)]
        rw [List.attachWith_map_subtype_val]; rfl
      rw [e, List.pairwise_map]
      exact key _
    exact hx.imp (fun h => of_decide_eq_true h)
  unfold yE
  refine WU ho.1 (fun k => ?_) hperm hsorted
  rw [ho.2, hh, decide_eq_true_iff]
  constructor
  · exact fun ⟨h1, h2, _⟩ => ⟨YD hok h1, h1, h2⟩
  · rintro ⟨h0, h1, h2⟩
    refine ⟨h1, h2, ?_⟩
    show k.1 ∈ ([1, 5, 3, 4, 2] : List Int)
    rcases h0 with ⟨e, _⟩ | e | e | e | ⟨e, _⟩ <;> rw [e] <;> decide
theorem xZ (H : jJ w0) (HP : xo) (p : Nat) (n : NS) (Cn G : qV) (hn : NodeC p n Cn) (hg : kn G) (hok : NOk n) :
    FnT Tryz.prog w0 46 #[.pointer (some ⟨p, 0, none⟩)] (Cn :: G :: F) (fun v L' => ∃ C', SlC 100 2 v (yE n).length ((yE n).flatMap zP) C' ∧ L' = C' :: Cn :: G :: F) := by
  obtain ⟨e0, f0, e1, f1, e2, f2, hG⟩ := id hg
  obtain ⟨ma, md, ms, oa, od, os, u, C, hM, hCn⟩ := hn.eq
  unfold zI at hCn
  obtain ⟨al, hal, hag⟩ := hM.d
  refine FnT.pre (L' := [(p, .cells [.int .u32 n.num, .int .u32 n.ver, .int .i64 n.kind, .int .i64 n.size, .int .u32 n.time, .map (some ma), .map (some md), .map (some ms), u].toArray 90 (0, 0))] :: [(ma, oa)] :: [(md, od)] :: [(ms, os)] :: C :: G :: F) ?_ (we (by rw [hCn]; simp))
  refine qh (E0 := [(0, _)]) (N := 88) Tryz.func46 rfl rfl rfl rfl ?_
  refine qP <| qD rfl <| qo <| qB rfl <| q9 (qQ rfl) <| q9 (qA rfl) <| q9 (qH rfl rfl) <| qG (qx rfl (wc ([(ms, os)]) (ZB ms os n.stale hM.s))) ?_
  rintro t15 _ ⟨q, rfl, rfl⟩
  refine qD rfl <| qF <| qO <| qP <| qB rfl <| q9 (qQ rfl) <| q9 (qA rfl) <| q9 (qH rfl rfl) <| qG (xE (r := md) rfl hal) ?_
  rintro t20 _ ⟨it, io, rfl, hio, rfl⟩
  refine qF <| qg <| wV (Γ := {pΓ : (List Nat) × (Obj) × (Obj) × (Int × Int → Option Int) // (fun (vis : List Nat) (io : Obj) (ao : Obj) (f : Int × Int → Option Int) => IterOk md od al.length vis io ∧ MapF yO (Value.int .i64) f ao ∧ (∀ k, f k ≠ none ↔ n.stale k ≠ none ∨ ∃ i, ko al vis i ∧ (k = (1, i) ∨ k = zF i))) pΓ.1 pΓ.2.1 pΓ.2.2.1 pΓ.2.2.2}) (fun g => (fun (vis : List Nat) (io : Obj) (ao : Obj) (f : Int × Int → Option Int) => [(0, .pointer (some ⟨p, 0, none⟩)), (3, .map (some q)), (20, .pointer (some ⟨it, 0, none⟩))]) g.1.1 g.1.2.1 g.1.2.2.1 g.1.2.2.2) (fun g => (fun (vis : List Nat) (io : Obj) (ao : Obj) (f : Int × Int → Option Int) => [(it, io)] :: [(q, ao)] :: [(p, .cells [.int .u32 n.num, .int .u32 n.ver, .int .i64 n.kind, .int .i64 n.size, .int .u32 n.time, .map (some ma), .map (some md), .map (some ms), u].toArray 90 (0, 0))] :: [(ma, oa)] :: [(md, od)] :: [(ms, os)] :: C :: G :: F) g.1.1 g.1.2.1 g.1.2.2.1 g.1.2.2.2) (fun g => (fun (vis : List Nat) (io : Obj) (ao : Obj) (f : Int × Int → Option Int) => al.length - vis.length) g.1.1 g.1.2.1 g.1.2.2.1 g.1.2.2.2) ⟨([], io, os, n.stale), by dsimp only; exact ⟨hio, hM.s, fun k => ⟨fun h => .inl h, fun h => h.resolve_right (fun ⟨_, h, _⟩ => Wa h)⟩⟩⟩ (qX _) ?_
  rintro ⟨⟨vis, io, ao, f⟩, hloop⟩
  replace hloop : IterOk md od al.length vis io ∧ MapF yO (Value.int .i64) f ao ∧ (∀ k, f k ≠ none ↔ n.stale k ≠ none ∨ ∃ i, ko al vis i ∧ (k = (1, i) ∨ k = zF i)) := hloop
  obtain ⟨hio, hf, hfk⟩ := hloop
  show Tr _ _ _ ([(0, .pointer (some ⟨p, 0, none⟩)), (3, .map (some q)), (20, .pointer (some ⟨it, 0, none⟩))]) ([(it, io)] :: [(q, ao)] :: [(p, .cells [.int .u32 n.num, .int .u32 n.ver, .int .i64 n.kind, .int .i64 n.size, .int .u32 n.time, .map (some ma), .map (some md), .map (some ms), u].toArray 90 (0, 0))] :: [(ma, oa)] :: [(md, od)] :: [(ms, os)] :: C :: G :: F) _ _
  refine qP <| qG (xc (r := md) (ob := od) (vis := vis) rfl (fun w hw => Own.get hw (inferInstance : At _ md od _)) hal hio) ?_
  rintro t21 _ (⟨rfl, hfin, rfl⟩ | ⟨i, x, io', rfl, hq, hni, hio', rfl⟩)
  ·
   refine q9 (qi rfl rfl) <| qF <| qO <| wU rfl <| wb <| qr <| qt <| qj <| qI <| qO <| qO ?_
   have hfk2 := all0_end hio hfin hag hfk
   obtain ⟨al2, hal2, hag2⟩ := hf
   refine yx (L' := [(q, ao)] :: Cn :: G :: F) (fun w hw => we (by rw [hCn]; simp) w hw.tail) ?_
   refine qK <| qB rfl <| qG (qx rfl (wc ([(q, ao)]) (ZB q ao f ⟨al2, hal2, hag2⟩))) ?_
   rintro t32 _ ⟨q2, rfl, rfl⟩
   refine qG (xE (r := q2) rfl hal2) ?_
   rintro t33 _ ⟨it2, io2, rfl, hio2, rfl⟩
   refine qF <| qg <| wV (Γ := {pΓ : (List Nat) × (Obj) × (Obj) × (Int × Int → Option Int) // (fun (vis : List Nat) (io : Obj) (ao2 : Obj) (h : Int × Int → Option Int) => IterOk q2 ao al2.length vis io ∧ MapF yO (Value.int .i64) h ao2 ∧ (∀ k, h k ≠ none ↔ f k ≠ none ∨ (k = (4, 0) ∧ ∃ x, ko al2 vis x ∧ x.1 = 5))) pΓ.1 pΓ.2.1 pΓ.2.2.1 pΓ.2.2.2}) (fun g => (fun (vis : List Nat) (io : Obj) (ao2 : Obj) (h : Int × Int → Option Int) => [(0, .pointer (some ⟨p, 0, none⟩)), (3, .map (some q)), (33, .pointer (some ⟨it2, 0, none⟩))]) g.1.1 g.1.2.1 g.1.2.2.1 g.1.2.2.2) (fun g => (fun (vis : List Nat) (io : Obj) (ao2 : Obj) (h : Int × Int → Option Int) => [(it2, io)] :: [(q2, ao)] :: [(q, ao2)] :: Cn :: G :: F) g.1.1 g.1.2.1 g.1.2.2.1 g.1.2.2.2) (fun g => (fun (vis : List Nat) (io : Obj) (ao2 : Obj) (h : Int × Int → Option Int) => al2.length - vis.length) g.1.1 g.1.2.1 g.1.2.2.1 g.1.2.2.2) ⟨([], io2, ao, f), by dsimp only; exact ⟨hio2, ⟨al2, hal2, hag2⟩, fun k => ⟨fun h => .inl h, fun h => h.resolve_right (fun ⟨_, _, h, _⟩ => Wa h)⟩⟩⟩ (qX _) ?_
   rintro ⟨⟨vis, io, ao2, h⟩, hloop⟩
   replace hloop : IterOk q2 ao al2.length vis io ∧ MapF yO (Value.int .i64) h ao2 ∧ (∀ k, h k ≠ none ↔ f k ≠ none ∨ (k = (4, 0) ∧ ∃ x, ko al2 vis x ∧ x.1 = 5)) := hloop
   obtain ⟨hio3, hh, hhk⟩ := hloop
   show Tr _ _ _ ([(0, .pointer (some ⟨p, 0, none⟩)), (3, .map (some q)), (33, .pointer (some ⟨it2, 0, none⟩))]) ([(it2, io)] :: [(q2, ao)] :: [(q, ao2)] :: Cn :: G :: F) _ _
   refine qP <| qG (xc (r := q2) (ob := ao) (vis := vis) rfl (fun w hw => Own.get hw (inferInstance : At _ q2 ao _)) hal2 hio3) ?_
   rintro t34 _ (⟨rfl, hfin2, rfl⟩ | ⟨i, x, io', rfl, hq, hni, hio', rfl⟩)
   ·
    refine q9 (qi rfl rfl) <| qF <| qO <| wU rfl <| wb <| qr <| qt <| qj <| qI <| zb (Γ := {pΓ : (Obj) × (Int × Int → Option Int) // (fun (ao4 : Obj) (g : Int × Int → Option Int) => MapF yO (Value.int .i64) g ao4 ∧ (∀ k, g k ≠ none ↔ Zf n k)) pΓ.1 pΓ.2}) (fun g => (fun (ao4 : Obj) (g : Int × Int → Option Int) => [(0, .pointer (some ⟨p, 0, none⟩)), (3, .map (some q))]) g.1.1 g.1.2) (fun g => (fun (ao4 : Obj) (g : Int × Int → Option Int) => [(q, ao4)] :: Cn :: G :: F) g.1.1 g.1.2) ?_ ?_
    ·
     refine qO ?_
     have hhk2 := all1_end hio3 hfin2 hag2 hfk2 hhk
     obtain ⟨al3, hal3, hag3⟩ := hh
     have hall := all2_end hag3 hhk2
     refine qK <| qB rfl <| q9 (op_len_map rfl hal3) <| q9 (y9 rfl rfl) <| qF <| qL rfl (fun hc12 => ?_) (fun hc12 => ?_)
     ·
      refine qK <| qB rfl <| q9 (kC (b := 0) (off := 0) (c := [Value.int .i64 2, Value.int .i64 0].toArray) (e := e0) (fr := f0) (r := [.int .i64 2, .int .i64 0]) rfl (by rw [hG]; simp) rfl (by decide)) ?_
      refine y5 (zR (r := q) (q := (2, 0)) (v := (1 : Int)) rfl rfl rfl ⟨al3, hal3, hag3⟩) ?_
      rintro _ _ ⟨ao5, hh5, rfl⟩
      refine qT <| qW ⟨(ao5, upd h (2, 0) (some 1)), ?_⟩ ?_
      · (try dsimp only); exact ⟨hh5, hall.1 hc12⟩
      · (try dsimp only); exact qX _
     ·
      refine qZ <| qW ⟨(ao2, h), ?_⟩ ?_
      · (try dsimp only); exact ⟨⟨al3, hal3, hag3⟩, hall.2 hc12⟩
      · (try dsimp only); exact qX _
    rintro ⟨⟨ao4, g⟩, hcut⟩
    replace hcut : MapF yO (Value.int .i64) g ao4 ∧ (∀ k, g k ≠ none ↔ Zf n k) := hcut
    obtain ⟨hga, hgk⟩ := hcut
    show Tr _ _ _ ([(0, .pointer (some ⟨p, 0, none⟩)), (3, .map (some q))]) ([(q, ao4)] :: Cn :: G :: F) _ _
    refine qO ?_
    obtain ⟨al4, hal4, hag4⟩ := hga
    refine qK <| qD rfl <| qF <| qO <| qP <| qG (wK rfl rfl rfl) ?_
    rintro t48 _ ⟨b48, rfl, rfl⟩
    refine q9 (wD rfl) <| qB rfl <| qF <| qg <| wV (Γ := {pΓ : (Nat) × (List (Int × Int)) × (Value) × (qV) // (fun (j : Nat) (out : List (Int × Int)) (uo : Value) (Co : qV) => j ≤ 5 ∧ SlC 100 2 uo out.length (out.flatMap zP) Co ∧ MS n g j out) pΓ.1 pΓ.2.1 pΓ.2.2.1 pΓ.2.2.2}) (fun g => (fun (j : Nat) (out : List (Int × Int)) (uo : Value) (Co : qV) => [(0, .pointer (some ⟨p, 0, none⟩)), (3, .map (some q)), (6, uo), (48, .slice (some ⟨b48, 0, none⟩) 5 5), (49, .int .i64 5), (50, .int .i64 j)]) g.1.1 g.1.2.1 g.1.2.2.1 g.1.2.2.2) (fun g => (fun (j : Nat) (out : List (Int × Int)) (uo : Value) (Co : qV) => Co :: [(b48, .cells [Value.int .i64 1, Value.int .i64 5, Value.int .i64 3, Value.int .i64 4, Value.int .i64 2].toArray 3 (0, 0))] :: [(q, ao4)] :: Cn :: G :: F) g.1.1 g.1.2.1 g.1.2.2.1 g.1.2.2.2) (fun g => (fun (j : Nat) (out : List (Int × Int)) (uo : Value) (Co : qV) => 5 - j) g.1.1 g.1.2.1 g.1.2.2.1 g.1.2.2.2) ⟨(0, [], .slice none 0 0, []), by dsimp only; exact ⟨by omega, SlC.nil _ _, by simp, fun k => by simp⟩⟩ (qX _) ?_
    rintro ⟨⟨j, out, uo, Co⟩, hloop⟩
    replace hloop : j ≤ 5 ∧ SlC 100 2 uo out.length (out.flatMap zP) Co ∧ MS n g j out := hloop
    obtain ⟨hj, hsl, ho⟩ := hloop
    show Tr _ _ _ ([(0, .pointer (some ⟨p, 0, none⟩)), (3, .map (some q)), (6, uo), (48, .slice (some ⟨b48, 0, none⟩) 5 5), (49, .int .i64 5), (50, .int .i64 j)]) (Co :: [(b48, .cells [Value.int .i64 1, Value.int .i64 5, Value.int .i64 3, Value.int .i64 4, Value.int .i64 2].toArray 3 (0, 0))] :: [(q, ao4)] :: Cn :: G :: F) _ _
    refine qP <| q9 (wL rfl rfl) <| qF <| qO <| qL rfl (fun hc16 => ?_) (fun hc16 => ?_)
    ·
     refine qZ <| qI <| qO <| qg <| qO ?_
     obtain ⟨kd, hkd⟩ : ∃ kd, kinds5[j]? = some kd := ⟨_, List.getElem?_eq_getElem (by show j < 5; omega)⟩
     refine qK <| q9 (qw (j := j) (off := j * 1) rfl rfl rfl (by omega) (by simp)) ?_
     refine q9 (qH rfl (show wX (iV kinds5) (j * 1) = some (.int .i64 kd) by rw [zK, Nat.mul_one]; simp only [iV, List.getElem?_map, hkd, Option.map_some])) ?_
     refine qD rfl <| qo <| qB rfl <| qG (xE (r := q) rfl hal4) ?_
     rintro t55 _ ⟨it3, io3, rfl, hio3, rfl⟩
     refine qF <| qg <| wV (Γ := {pΓ : (List Nat) × (Obj) × (List (Int × Int)) × (Value) × (qV) // (fun (vis : List Nat) (io : Obj) (out : List (Int × Int)) (uo : Value) (Co : qV) => IterOk q ao4 al4.length vis io ∧ SlC 100 2 uo out.length (out.flatMap zP) Co ∧ K9 n g (fun k => k ∈ kinds5.take j) kd (ko al4 vis) out) pΓ.1 pΓ.2.1 pΓ.2.2.1 pΓ.2.2.2.1 pΓ.2.2.2.2}) (fun g => (fun (vis : List Nat) (io : Obj) (out : List (Int × Int)) (uo : Value) (Co : qV) => [(0, .pointer (some ⟨p, 0, none⟩)), (3, .map (some q)), (6, uo), (8, .int .i64 kd), (48, .slice (some ⟨b48, 0, none⟩) 5 5), (49, .int .i64 5), (50, .int .i64 j), (55, .pointer (some ⟨it3, 0, none⟩))]) g.1.1 g.1.2.1 g.1.2.2.1 g.1.2.2.2.1 g.1.2.2.2.2) (fun g => (fun (vis : List Nat) (io : Obj) (out : List (Int × Int)) (uo : Value) (Co : qV) => [(it3, io)] :: Co :: [(b48, .cells [Value.int .i64 1, Value.int .i64 5, Value.int .i64 3, Value.int .i64 4, Value.int .i64 2].toArray 3 (0, 0))] :: [(q, ao4)] :: Cn :: G :: F) g.1.1 g.1.2.1 g.1.2.2.1 g.1.2.2.2.1 g.1.2.2.2.2) (fun g => (fun (vis : List Nat) (io : Obj) (out : List (Int × Int)) (uo : Value) (Co : qV) => al4.length - vis.length) g.1.1 g.1.2.1 g.1.2.2.1 g.1.2.2.2.1 g.1.2.2.2.2) ⟨([], io3, out, uo, Co), by dsimp only; exact ⟨hio3, hsl, outK_start kd ho⟩⟩ (qX _) ?_
     rintro ⟨⟨vis, io, out, uo, Co⟩, hloop⟩
     replace hloop : IterOk q ao4 al4.length vis io ∧ SlC 100 2 uo out.length (out.flatMap zP) Co ∧ K9 n g (fun k => k ∈ kinds5.take j) kd (ko al4 vis) out := hloop
     obtain ⟨hio4, hsl, hoi⟩ := hloop
     show Tr _ _ _ ([(0, .pointer (some ⟨p, 0, none⟩)), (3, .map (some q)), (6, uo), (8, .int .i64 kd), (48, .slice (some ⟨b48, 0, none⟩) 5 5), (49, .int .i64 5), (50, .int .i64 j), (55, .pointer (some ⟨it3, 0, none⟩))]) ([(it3, io)] :: Co :: [(b48, .cells [Value.int .i64 1, Value.int .i64 5, Value.int .i64 3, Value.int .i64 4, Value.int .i64 2].toArray 3 (0, 0))] :: [(q, ao4)] :: Cn :: G :: F) _ _
     refine qP <| qG (xc (r := q) (ob := ao4) (vis := vis) rfl (fun w hw => Own.get hw (inferInstance : At _ q ao4 _)) hal4 hio4) ?_
     rintro t56 _ (⟨rfl, hfin3, rfl⟩ | ⟨i, x, io', rfl, hq, hni, hio', rfl⟩)
     ·
      refine q9 (qi rfl rfl) <| qF <| qO <| wU rfl <| wb <| qr <| qt <| qj <| qf <| qI <| qK <| q9 (w9 rfl rfl (by omega)) <| qB rfl <| qT <| w5 ⟨(j + 1, out, uo, Co), ?_⟩ ?_ ?_
      · (try dsimp only); exact ⟨by omega, hsl, outIs_end hkd hio4 hfin3 hag4 hoi⟩
      · (try dsimp only); omega
      · (try dsimp only); exact qX _
     ·
      refine q9 (qi rfl rfl) <| qF <| qO <| zL rfl <| qZ <| qI <| qg <| qP <| q9 (xG (r := q) (ob := ao4) (vis := vis) rfl (fun w hw => Own.get hw (inferInstance : At _ q ao4 _)) hal4 hio' hq) ?_
      refine q9 (qi rfl rfl) <| qG (qn) ?_
      rintro t9 _ ⟨b9, rfl, rfl⟩
      refine qS (wj (vs := [.int .i64 x.1.1, .int .i64 x.1.2]) rfl rfl rfl rfl) <| qF <| zb (Γ := {pΓ : (Bool) // (fun (b : Bool) => b = true ↔ (x.1.1 = kd ∧ Xk n x.1)) pΓ}) (fun g => (fun (b : Bool) => [(0, .pointer (some ⟨p, 0, none⟩)), (3, .map (some q)), (6, uo), (8, .int .i64 kd), (9, .pointer (some ⟨b9, 0, none⟩)), (48, .slice (some ⟨b48, 0, none⟩) 5 5), (49, .int .i64 5), (50, .int .i64 j), (55, .pointer (some ⟨it3, 0, none⟩)), (76, .bool b)]) g.1) (fun g => (fun (b : Bool) => [(b9, .cells [.int .i64 x.1.1, .int .i64 x.1.2].toArray 100 (0, 0))] :: [(it3, io')] :: Co :: [(b48, .cells [Value.int .i64 1, Value.int .i64 5, Value.int .i64 3, Value.int .i64 4, Value.int .i64 2].toArray 3 (0, 0))] :: [(q, ao4)] :: Cn :: G :: F) g.1) ?_ ?_
      ·
       refine qK <| q9 (qA rfl) <| q9 (qH rfl rfl) <| qB rfl <| q9 (wl rfl rfl) <| qB rfl <| qY (s := 64) rfl (fun hg21_4 => ?_) (fun hg21_4 => ?_)
       ·
        refine qE rfl rfl (qM rfl) <| qE rfl rfl (wl rfl rfl) <| qE rfl rfl (qM rfl) <| qY (s := 67) rfl (fun hg21_7 => ?_) (fun hg21_7 => ?_)
        ·
         refine qN rfl rfl rfl <| qN rfl rfl rfl <| qE rfl rfl (qk rfl rfl) <| qE rfl rfl (qM rfl) <| qN rfl rfl rfl <| qN rfl rfl rfl <| qN rfl rfl rfl <| qE rfl rfl (qk rfl rfl) <| q9 (qk rfl rfl) <| qT <| qW ⟨_, ?_⟩ ?_
         · (try dsimp only); first | exact ⟨fun _ => ⟨hg21_4, .inl (by omega)⟩, fun _ => rfl⟩ | exact ⟨fun _ => ⟨hg21_4, .inr (.inl (by omega))⟩, fun _ => rfl⟩ | exact ⟨fun h => ⟨hg21_4, .inr (.inr h)⟩, fun h => (h.2.resolve_left (by omega)).resolve_left (by omega)⟩ | exact ⟨fun h => (by cases h), fun h => absurd h.1 hg21_4⟩
         · (try dsimp only); exact qX _
        ·
         refine qE rfl rfl (qM rfl) <| qE rfl rfl (wl rfl rfl) <| qE rfl rfl (qU rfl rfl) <| qE rfl rfl (qM rfl) <| qY (s := 71) rfl (fun hg21_11 => ?_) (fun hg21_11 => ?_)
         ·
          refine qN rfl rfl rfl <| qN rfl rfl rfl <| qN rfl rfl rfl <| qE rfl rfl (qk rfl rfl) <| q9 (qk rfl rfl) <| qT <| qW ⟨_, ?_⟩ ?_
          · (try dsimp only); first | exact ⟨fun _ => ⟨hg21_4, .inl (by omega)⟩, fun _ => rfl⟩ | exact ⟨fun _ => ⟨hg21_4, .inr (.inl (by omega))⟩, fun _ => rfl⟩ | exact ⟨fun h => ⟨hg21_4, .inr (.inr h)⟩, fun h => (h.2.resolve_left (by omega)).resolve_left (by omega)⟩ | exact ⟨fun h => (by cases h), fun h => absurd h.1 hg21_4⟩
          · (try dsimp only); exact qX _
         ·
          refine qE rfl rfl (qM rfl) <| qE rfl rfl (wZ rfl) <| qE rfl rfl (wJ rfl (yj (Cn) (G) (K5 H p n Cn G hn hg hok x.1))) <| qE rfl rfl (qU rfl rfl) <| q9 (qk rfl rfl) <| qT <| qW ⟨_, ?_⟩ ?_
          · (try dsimp only); first | exact ⟨fun _ => ⟨hg21_4, .inl (by omega)⟩, fun _ => rfl⟩ | exact ⟨fun _ => ⟨hg21_4, .inr (.inl (by omega))⟩, fun _ => rfl⟩ | exact ⟨fun h => ⟨hg21_4, .inr (.inr h)⟩, fun h => (h.2.resolve_left (by omega)).resolve_left (by omega)⟩ | exact ⟨fun h => (by cases h), fun h => absurd h.1 hg21_4⟩
          · (try dsimp only); exact qX _
       ·
        refine qN rfl rfl rfl <| qN rfl rfl rfl <| qN rfl rfl rfl <| j5 rfl rfl <| j5 rfl rfl <| qN rfl rfl rfl <| qN rfl rfl rfl <| j5 rfl rfl <| j5 rfl rfl <| j5 rfl rfl <| qN rfl rfl rfl <| q9 (qU rfl rfl) <| qT <| qW ⟨_, ?_⟩ ?_
        · (try dsimp only); first | exact ⟨fun _ => ⟨hg21_4, .inl (by omega)⟩, fun _ => rfl⟩ | exact ⟨fun _ => ⟨hg21_4, .inr (.inl (by omega))⟩, fun _ => rfl⟩ | exact ⟨fun h => ⟨hg21_4, .inr (.inr h)⟩, fun h => (h.2.resolve_left (by omega)).resolve_left (by omega)⟩ | exact ⟨fun h => (by cases h), fun h => absurd h.1 hg21_4⟩
        · (try dsimp only); exact qX _
      rintro ⟨b, hcut⟩
      replace hcut : b = true ↔ (x.1.1 = kd ∧ Xk n x.1) := hcut
      have hb := hcut
      show Tr _ _ _ ([(0, .pointer (some ⟨p, 0, none⟩)), (3, .map (some q)), (6, uo), (8, .int .i64 kd), (9, .pointer (some ⟨b9, 0, none⟩)), (48, .slice (some ⟨b48, 0, none⟩) 5 5), (49, .int .i64 5), (50, .int .i64 j), (55, .pointer (some ⟨it3, 0, none⟩)), (76, .bool b)]) ([(b9, .cells [.int .i64 x.1.1, .int .i64 x.1.2].toArray 100 (0, 0))] :: [(it3, io')] :: Co :: [(b48, .cells [Value.int .i64 1, Value.int .i64 5, Value.int .i64 3, Value.int .i64 4, Value.int .i64 2].toArray 3 (0, 0))] :: [(q, ao4)] :: Cn :: G :: F) _ _
      refine y3 rfl (fun hc20 => ?_) (fun hc20 => ?_)
      ·
       have hlen := WV hoi.1 (fun y hy => YD hok ((hgk y).1 ((hoi.2 y).1 hy).1))
       refine qK <| qB rfl <| q9 (wZ rfl) <| qG (wK rfl rfl rfl) ?_
       rintro t79 _ ⟨b79, rfl, rfl⟩
       refine qG (wg (m := 1) (sz := 2) rfl rfl hsl (wi (ys := zP x.1) inferInstance rfl rfl) rfl Tryz.underlying110 rfl rfl (by omega)) ?_
       rintro t80 _ ⟨C', hs', rfl⟩
       refine qD rfl <| qT <| qf <| w5 ⟨(vis ++ [i], io', out ++ [x.1], t80, C'), ?_⟩ ?_ ?_
       · (try dsimp only); exact ⟨hio', by rw [List.length_append, List.flatMap_append]; simpa using hs', outIs_in hal4.nodup hag4 hni (kinds5_fresh hkd) hq (hb.1 hc20) hoi⟩
       · (try dsimp only); exact x3 hio'
       · (try dsimp only); exact qX _
      ·
       refine qZ <| qf <| w5 ⟨(vis ++ [i], io', out, uo, Co), ?_⟩ ?_ ?_
       · (try dsimp only); exact ⟨hio', hsl, outIs_out hq (fun h => by rw [hb.2 h] at hc20; cases hc20) hoi⟩
       · (try dsimp only); exact x3 hio'
       · (try dsimp only); exact qX _
    ·
     refine wb <| qr <| qt <| qj <| qI <| qP <| qG (ki) ?_
     rintro t82 _ ⟨b82, rfl, rfl⟩
     refine y5 (xP (r := b82) (q := (1 : Int)) (v := (0 : Int)) rfl rfl rfl (kk _ _)) ?_
     rintro _ _ ⟨o1, ho1, rfl⟩
     refine y5 (xP (r := b82) (q := (5 : Int)) (v := (1 : Int)) rfl rfl rfl ho1) ?_
     rintro _ _ ⟨o2, ho2, rfl⟩
     refine y5 (xP (r := b82) (q := (3 : Int)) (v := (2 : Int)) rfl rfl rfl ho2) ?_
     rintro _ _ ⟨o3, ho3, rfl⟩
     refine y5 (xP (r := b82) (q := (4 : Int)) (v := (3 : Int)) rfl rfl rfl ho3) ?_
     rintro _ _ ⟨o4, ho4, rfl⟩
     refine y5 (xP (r := b82) (q := (2 : Int)) (v := (4 : Int)) rfl rfl rfl ho4) ?_
     rintro _ _ ⟨o5, ho5, rfl⟩
     refine qB rfl <| qG (qn) ?_
     rintro t10 _ ⟨b10, rfl, rfl⟩
     refine qS (ws rfl rfl rfl) <| qF <| qO ?_
     have hj5 : j = 5 := by omega
     subst hj5
     have hlen := WV ho.1 (fun y hy => YD hok ((hgk y).1 ((ho.2 y).1 hy).1))
     have hsrt := srtP_parts hok hgk ho
     refine qK <| qB rfl <| q9 (wx rfl rfl) <| qG (qx rfl (ku (Co) ([(b10, .cells [Value.map (some b82)].toArray 150 (0, 0))]) ([(b82, o5)]) (HP.sortF w0 _ uo out Co b10 b82 o5 hsl (by omega) (fun y hy => YD hok ((hgk y).1 ((ho.2 y).1 hy).1)) ho5))) ?_
     rintro t86 _ ⟨rfl, C', hs', rfl⟩
     refine qo <| qB rfl <| qD rfl <| qF <| qz <| wF (C' :: Cn :: G :: F) (.inl rfl) rfl (qu rfl) ?_
     exact ⟨C', by rw [← hsrt, show (YP out).length = out.length from List.length_mergeSort out]; exact hs', rfl⟩
   ·
    refine q9 (qi rfl rfl) <| qF <| qO <| zL rfl <| qZ <| qI <| qg <| qP <| q9 (xG (r := q2) (ob := ao) (vis := vis) rfl (fun w hw => Own.get hw (inferInstance : At _ q2 ao _)) hal2 hio' hq) ?_
    refine q9 (qi rfl rfl) <| qG (qn) ?_
    rintro t5 _ ⟨b5, rfl, rfl⟩
    refine qS (wj (vs := [.int .i64 x.1.1, .int .i64 x.1.2]) rfl rfl rfl rfl) <| qo <| q9 (qA rfl) <| q9 (qH rfl rfl) <| q9 (wl rfl rfl) <| qF <| qL rfl (fun hc10 => ?_) (fun hc10 => ?_)
    ·
     refine qK <| qB rfl <| q9 (kC (b := 1) (off := 0) (c := [Value.int .i64 4, Value.int .i64 0].toArray) (e := e1) (fr := f1) (r := [.int .i64 4, .int .i64 0]) rfl (by rw [hG]; simp) rfl (by decide)) ?_
     refine y5 (zR (r := q) (q := (4, 0)) (v := (1 : Int)) rfl rfl rfl hh) ?_
     rintro _ _ ⟨ao3, hh3, rfl⟩
     refine qT <| qf <| w5 ⟨(vis ++ [i], io', ao3, upd h (4, 0) (some 1)), ?_⟩ ?_ ?_
     · (try dsimp only); exact ⟨hio', hh3, (Jv hq hhk).1 hc10⟩
     · (try dsimp only); exact x3 hio'
     · (try dsimp only); exact qX _
    ·
     refine qZ <| qf <| w5 ⟨(vis ++ [i], io', ao2, h), ?_⟩ ?_ ?_
     · (try dsimp only); exact ⟨hio', hh, (Jv hq hhk).2 hc10⟩
     · (try dsimp only); exact x3 hio'
     · (try dsimp only); exact qX _
  ·
   refine q9 (qi rfl rfl) <| qF <| qO <| zL rfl <| qZ <| qI <| qg <| qP <| q9 (xG (r := md) (ob := od) (vis := vis) rfl (fun w hw => Own.get hw (inferInstance : At _ md od _)) hal hio' hq) ?_
   refine q9 (qi rfl rfl) <| qD rfl <| qo <| qB rfl <| qB rfl <| q9 (wa rfl) <| y5 (zR (r := q) (q := (1, x.1)) (v := (1 : Int)) rfl rfl rfl hf) ?_
   rintro _ _ ⟨ao', hf', rfl⟩
   refine qF <| qK <| qB rfl <| qB rfl <| q9 (wJ rfl (zS (G) (YI x.1 G hg (by have := hok.data x.1 (by rw [← hag, xJ hal.nodup (List.mem_of_getElem? hq)]; simp); omega)))) ?_
   refine y5 (zR (r := q) (q := zF x.1) (v := (1 : Int)) rfl rfl rfl hf') ?_
   rintro _ _ ⟨ao2, hf2, rfl⟩
   refine qT <| qf <| w5 ⟨(vis ++ [i], io', ao2, upd (upd f (1, x.1) (some 1)) (zF x.1) (some 1)), ?_⟩ ?_ ?_
   · (try dsimp only); exact ⟨hio', hf2, all0_step hq hfk⟩
   · (try dsimp only); exact x3 hio'
   · (try dsimp only); exact qX _
abbrev Qg (num ver : Int) (k : Int × Int) : List Value := [.int .i64 k.1, .int .u32 num, .int .u32 ver, .int .i64 k.2]
instance (num ver : Int) (k : Int × Int) : LenC (Qg num ver k) 4 := ⟨rfl⟩
theorem Wr (p : Nat) (n : NS) (Cn : qV) (hn : Wz p n Cn) (k : Int × Int) :
    FnT Tryz.prog w0 47 #[.pointer (some ⟨p, 0, none⟩), yO k] (Cn :: F) (fun v L' => v = .agg (Qg n.num n.ver k).toArray ∧ L' = Cn :: F) := by
  refine Ki hn ?_
  intro ma md ms oa od os u C hm
  unfold kM zI yO
  refine qh (E0 := [(0, _), (1, _)]) (N := 18) Tryz.func47 rfl rfl rfl rfl ?_
  refine qP <| qG (wq rfl) ?_
  rintro t3 _ ⟨b3, rfl, rfl⟩
  refine qG (qn) ?_
  rintro t4 _ ⟨b4, rfl, rfl⟩
  refine qF <| qO <| wQ w8 <| wE [(5, .pure _), (6, .pure _), (7, .pure _), (8, .pure _), (9, .pure _), (10, .pure _), (11, .pure _), (12, .pure _), (13, .pure _), (14, .pure _), (15, .pure _), (16, .pure _)] (by kernel_rfl) rfl rfl rfl wd (qC rfl (fun X => qA rfl) <| qC rfl (fun X => qH rfl rfl) <| qC rfl (fun X => qM rfl) <| qC rfl (fun X => qQ rfl) <| qC rfl (fun X => qA rfl) <| qC rfl (fun X => qH rfl rfl) <| qC rfl (fun X => qM rfl) <| qC rfl (fun X => qQ rfl) <| qC rfl (fun X => qA rfl) <| qC rfl (fun X => qH rfl rfl) <| qC rfl (fun X => qA rfl) <| qC rfl (fun X => qH rfl rfl) <| ParH.nil rfl) ?_
  dsimp only [zQ, List.drop, List.length]
  refine qm (by kernel_rfl) (wa rfl) ?_
  refine yU (by kernel_rfl) (wj rfl rfl rfl rfl) ?_
  refine wI <| qI <| qz <| wF ([(p, .cells [.int .u32 n.num, .int .u32 n.ver, .int .i64 n.kind, .int .i64 n.size, .int .u32 n.time, .map (some ma), .map (some md), .map (some ms), u].toArray 90 (0, 0))] :: [(ma, oa)] :: [(md, od)] :: [(ms, os)] :: C :: F) (.inl rfl) rfl (za rfl) ?_
  exact ⟨rfl, rfl⟩
theorem ZW (H : jJ w0) (HP : xo) (p : Nat) (n : NS) (Cn G : qV) (hn : NodeC p n Cn) (hg : kn G) (hok : NOk n) :
    FnT Tryz.prog w0 15 #[.pointer (some ⟨p, 0, none⟩)] (Cn :: G :: F) (fun v L' => ∃ C', SlC 62 4 v (yE n).length ((yE n).flatMap (Qg n.num n.ver)) C' ∧ L' = C' :: Cn :: G :: F) := by
  obtain ⟨l, hl⟩ : ∃ l, yE n = l := ⟨_, rfl⟩
  have hlen : l.length ≤ 1099 := by
    rw [← hl]; unfold yE
    refine Nat.le_trans (List.length_filter_le _ _) ?_
    simp [allParts]
  refine qh (E0 := [(0, _)]) (N := 21) Tryz.func15 rfl rfl rfl rfl ?_
  refine qP <| qD rfl <| qo <| qD rfl <| qF <| qO <| qP <| qB rfl <| qG (qx rfl (k0 (Cn) (G) (xZ H HP p n Cn G hn hg hok))) ?_
  rintro t7 _ ⟨Cp, hs, rfl⟩
  rw [hl] at hs ⊢
  obtain ⟨px, cx, rfl⟩ := hs.slice
  refine q9 (wD rfl) <| qB rfl <| qF <| qg <| wV (Γ := {pΓ : (Nat) × (Value) × (qV) // (fun (i : Nat) (uo : Value) (Co : qV) => i ≤ l.length ∧ SlC 62 4 uo i ((l.take i).flatMap (Qg n.num n.ver)) Co) pΓ.1 pΓ.2.1 pΓ.2.2}) (fun g => (fun (i : Nat) (uo : Value) (Co : qV) => [(0, .pointer (some ⟨p, 0, none⟩)), (3, uo), (7, .slice px l.length cx), (8, .int .i64 l.length), (9, .int .i64 i)]) g.1.1 g.1.2.1 g.1.2.2) (fun g => (fun (i : Nat) (uo : Value) (Co : qV) => Co :: Cp :: Cn :: G :: F) g.1.1 g.1.2.1 g.1.2.2) (fun g => (fun (i : Nat) (uo : Value) (Co : qV) => l.length - i) g.1.1 g.1.2.1 g.1.2.2) ⟨(0, .slice none 0 0, []), by dsimp only; exact ⟨by omega, SlC.nil _ _⟩⟩ (qX _) ?_
  rintro ⟨⟨i, uo, Co⟩, hloop⟩
  replace hloop : i ≤ l.length ∧ SlC 62 4 uo i ((l.take i).flatMap (Qg n.num n.ver)) Co := hloop
  obtain ⟨hi, hsl⟩ := hloop
  show Tr _ _ _ ([(0, .pointer (some ⟨p, 0, none⟩)), (3, uo), (7, .slice px l.length cx), (8, .int .i64 l.length), (9, .int .i64 i)]) (Co :: Cp :: Cn :: G :: F) _ _
  refine qP <| q9 (wL rfl rfl) <| qF <| qO <| qL rfl (fun hc3 => ?_) (fun hc3 => ?_)
  ·
   refine qZ <| qI <| qO <| qg <| qO ?_
   obtain ⟨q, hq⟩ : ∃ q, l[i]? = some q := ⟨_, List.getElem?_eq_getElem (by omega)⟩
   refine qK <| qG (yP (j := i) rfl rfl hs (by omega) (by omega)) ?_
   rintro t11 _ ⟨b, cap, spare, hqc, rfl, hcap, hnc, rfl, rfl⟩
   refine q9 (zC (j := i) y4 rfl hq rfl) <| qG (qn) ?_
   rintro t5 _ ⟨b5, rfl, rfl⟩
   refine qS (qq (l := [Value.int .i64 0, Value.int .i64 0]) (vs := [.int .i64 q.1, .int .i64 q.2]) rfl rfl rfl rfl rfl) <| qF <| qK <| qB rfl <| qB rfl <| q9 (wZ rfl) <| q9 (wJ rfl (zS (Cn) (Wr p n Cn (Je hn) q))) <| qG (wK rfl rfl rfl) ?_
   rintro t17 _ ⟨b17, rfl, rfl⟩
   refine qG (wg (m := 1) (sz := 4) rfl rfl hsl (wi (ys := Qg n.num n.ver q) inferInstance rfl rfl) rfl Tryz.underlying51 rfl rfl (by omega)) ?_
   rintro t18 _ ⟨C', hs', rfl⟩
   refine qD rfl <| qT <| qf <| qI <| qK <| q9 (w9 rfl rfl (by omega)) <| qB rfl <| qT <| w5 ⟨(i + 1, t18, C'), ?_⟩ ?_ ?_
   · (try dsimp only); exact ⟨by omega, by rw [List.take_add_one, hq, List.flatMap_append]; simpa using hs'⟩
   · (try dsimp only); omega
   · (try dsimp only); exact qX _
  ·
   refine wb <| qr <| qt <| qj <| qI <| qP <| qB rfl <| qD rfl <| qF <| qz <| wF (Co :: Cn :: G :: F) (.inl rfl) rfl (qu rfl) ?_
   have hil : i = l.length := by omega
   rw [hil, List.take_length] at hsl
   exact ⟨Co, hsl, rfl⟩
def VZ (i : Int) : List (Int × Int × Int) :=
  wW i :: ((if (wW i).1 ≠ 0 then [((wW i).1, (wW i).2.1, -1)] else []) ++ (if (wW i).1 = 2 then [(2, -1, -1)] else []))
def jb (s : List (Int × Int × Int)) (x : Int × Int × Int) : List (Int × Int × Int) := if x ∈ s then s else s ++ [x]
def Wc (xs : List Int) : List (Int × Int × Int) := (xs.flatMap VZ).foldl jb []
def MP (xs : List Int) : Int := 1 + (Wc xs).length
def Yn (f : Int × Int × Int → Option Int) (s : List (Int × Int × Int)) (m : Nat) : Prop := (∀ k, f k ≠ none ↔ k ∈ s) ∧ (∀ k v, f k = some v → 1 ≤ v ∧ v ≤ m) ∧ s.length ≤ m
theorem seenAdd_len (s : List (Int × Int × Int)) (x : Int × Int × Int) : (jb s x).length ≤ s.length + 1 := by
  unfold jb; split <;> simp
theorem seen_step {f : Int × Int × Int → Option Int} {s : List (Int × Int × Int)} {m : Nat} (h : Yn f s m) (x : Int × Int × Int) :
    Yn (upd f x (some ((f x).getD 0 + 1))) (jb s x) (m + 1) ∧ ((f x).getD 0 + 1 = 1 ↔ x ∉ s) ∧ 0 ≤ (f x).getD 0 ∧ (f x).getD 0 ≤ m := by
  obtain ⟨h1, h2, h0⟩ := h
  have hb : 0 ≤ (f x).getD 0 ∧ (f x).getD 0 ≤ m := by
    cases e : f x with
    | none => simp
    | some v => have := h2 x v e; simp; omega
  refine ⟨⟨fun k => ?_, fun k v hv => ?_, by have := seenAdd_len s x; omega⟩, ?_, hb.1, hb.2⟩
  · unfold jb upd
    by_cases e : k = x
    · subst e; simp only [if_true]; split <;> simp_all
    · rw [if_neg e, h1]; split <;> simp [e]
  · unfold upd at hv
    by_cases e : k = x
    · rw [if_pos e] at hv; cases hv; omega
    · rw [if_neg e] at hv; have := h2 k v hv; omega
  · have := h1 x
    cases e : f x with
    | none => rw [e] at this; simp at this; simp [this]
    | some v =>
      have h3 := h2 x v e
      rw [e] at this; simp at this
      simp [this]; omega
theorem add_ok (bm r bc : Nat) (o : Obj) (f : Int × Int × Int → Option Int) (hf : MapF xW (Value.int .i64) f o) (x : Int × Int × Int) (c : Int) (hc : 0 ≤ c ∧ c ≤ 1000000) (hx : 0 ≤ (f x).getD 0 ∧ (f x).getD 0 ≤ 1000000) :
    FnT Tryz.prog w0 86 #[xW x, .pointer (some ⟨bm, 0, none⟩), .pointer (some ⟨bc, 0, none⟩)] ([(bm, .cells [Value.map (some r)].toArray 159 (0, 0))] :: [(r, o)] :: [(bc, .cells [Value.int .i64 c].toArray 3 (0, 0))] :: F)
      (fun v L' => v = .tuple #[] ∧ ∃ o', MapF xW (Value.int .i64) (upd f x (some ((f x).getD 0 + 1))) o' ∧ L' = [(bm, .cells [Value.map (some r)].toArray 159 (0, 0))] :: [(r, o')] :: [(bc, .cells [Value.int .i64 (if (f x).getD 0 + 1 = 1 then c + 1 else c)].toArray 3 (0, 0))] :: F) := by
  obtain ⟨al, hal, hag⟩ := id hf
  unfold xW
  refine qh (E0 := [(0, _), (1, _), (2, _)]) (N := 16) Tryz.func86 rfl rfl rfl rfl ?_
  refine qP <| qG (wq rfl) ?_
  rintro t3 _ ⟨b3, rfl, rfl⟩
  refine qF <| zb (Γ := {pΓ : (Obj) // (fun (o2 : Obj) => MapF xW (Value.int .i64) (upd f x (some ((f x).getD 0 + 1))) o2) pΓ}) (fun g => (fun (o2 : Obj) => [(1, .pointer (some ⟨bm, 0, none⟩)), (2, .pointer (some ⟨bc, 0, none⟩)), (3, .pointer (some ⟨b3, 0, none⟩))]) g.1) (fun g => (fun (o2 : Obj) => [(b3, .cells [.int .i64 x.1, .int .i64 x.2.1, .int .i64 x.2.2].toArray 160 (0, 0))] :: [(bm, .cells [Value.map (some r)].toArray 159 (0, 0))] :: [(r, o2)] :: [(bc, .cells [Value.int .i64 c].toArray 3 (0, 0))] :: F) g.1) ?_ ?_
  ·
   refine yT w8 (show TrS _ _ _ _ [false, false, false, false, false, false, false] _ _ _ from ?_)
   refine wy (i := 0) (j := 1) (by kernel_rfl) rfl ?_ ?_
   ·
    refine qe rfl rfl rfl (qH rfl rfl) <| qR 1 rfl <| qe rfl rfl rfl (wZ rfl) <| wy (i := 2) (j := 4) (by kernel_rfl) rfl ?_ ?_
    ·
     refine qe rfl rfl rfl (WE (z := (0 : Int)) (q := x) (v := (f x).getD 0) rfl rfl hf rfl) <| wy (i := 3) (j := 4) (by kernel_rfl) rfl ?_ ?_
     ·
      refine qe rfl rfl rfl (w9 rfl rfl (by omega)) <| qR 4 rfl <| wB rfl rfl rfl (jz (q := x) (zv := (0 : Int)) rfl rfl hal) ?_
      rintro t8 _ ⟨o1, st, rfl, hst, rfl⟩
      refine qJ 5 rfl rfl rfl (qv rfl rfl) <| qR 6 rfl <| Q8 rfl rfl rfl (jD (q := x) (v := (f x).getD 0 + 1) rfl rfl rfl hst) ?_
      rintro _ _ ⟨o2, ho2, rfl⟩
      refine wG <| qW ⟨o2, ?_⟩ ?_
      · (try dsimp only); exact ⟨_, ho2, fun k => by rw [yn, yn]; unfold upd; split <;> simp [*]⟩
      · (try dsimp only); exact qX _
     ·
      refine wB rfl rfl rfl (jz (q := x) (zv := (0 : Int)) rfl rfl hal) ?_
      rintro t8 _ ⟨o1, st, rfl, hst, rfl⟩
      refine qJ 5 rfl rfl rfl (qv rfl rfl) <| qR 3 rfl <| qe rfl rfl rfl (w9 rfl rfl (by omega)) <| qR 6 rfl <| Q8 rfl rfl rfl (jD (q := x) (v := (f x).getD 0 + 1) rfl rfl rfl hst) ?_
      rintro _ _ ⟨o2, ho2, rfl⟩
      refine wG <| qW ⟨o2, ?_⟩ ?_
      · (try dsimp only); exact ⟨_, ho2, fun k => by rw [yn, yn]; unfold upd; split <;> simp [*]⟩
      · (try dsimp only); exact qX _
    ·
     refine wB rfl rfl rfl (jz (q := x) (zv := (0 : Int)) rfl rfl hal) ?_
     rintro t8 _ ⟨o1, st, rfl, hst, rfl⟩
     refine qJ 5 rfl rfl rfl (qv rfl rfl) <| qR 2 rfl <| qe rfl rfl rfl (WE (z := (0 : Int)) (q := x) (v := (f x).getD 0) (f := upd f x (some ((yB al x).getD 0))) rfl rfl (KU hst hag) (by rw [zW, hag]; rfl)) ?_
     refine qR 3 rfl <| qe rfl rfl rfl (w9 rfl rfl (by omega)) <| qR 6 rfl <| Q8 rfl rfl rfl (jD (q := x) (v := (f x).getD 0 + 1) rfl rfl rfl hst) ?_
     rintro _ _ ⟨o2, ho2, rfl⟩
     refine wG <| qW ⟨o2, ?_⟩ ?_
     · (try dsimp only); exact ⟨_, ho2, fun k => by rw [yn, yn]; unfold upd; split <;> simp [*]⟩
     · (try dsimp only); exact qX _
   ·
    refine qe rfl rfl rfl (wZ rfl) <| qR 0 rfl <| qe rfl rfl rfl (qH rfl rfl) <| wy (i := 2) (j := 4) (by kernel_rfl) rfl ?_ ?_
    ·
     refine qe rfl rfl rfl (WE (z := (0 : Int)) (q := x) (v := (f x).getD 0) rfl rfl hf rfl) <| wy (i := 3) (j := 4) (by kernel_rfl) rfl ?_ ?_
     ·
      refine qe rfl rfl rfl (w9 rfl rfl (by omega)) <| qR 4 rfl <| wB rfl rfl rfl (jz (q := x) (zv := (0 : Int)) rfl rfl hal) ?_
      rintro t8 _ ⟨o1, st, rfl, hst, rfl⟩
      refine qJ 5 rfl rfl rfl (qv rfl rfl) <| qR 6 rfl <| Q8 rfl rfl rfl (jD (q := x) (v := (f x).getD 0 + 1) rfl rfl rfl hst) ?_
      rintro _ _ ⟨o2, ho2, rfl⟩
      refine wG <| qW ⟨o2, ?_⟩ ?_
      · (try dsimp only); exact ⟨_, ho2, fun k => by rw [yn, yn]; unfold upd; split <;> simp [*]⟩
      · (try dsimp only); exact qX _
     ·
      refine wB rfl rfl rfl (jz (q := x) (zv := (0 : Int)) rfl rfl hal) ?_
      rintro t8 _ ⟨o1, st, rfl, hst, rfl⟩
      refine qJ 5 rfl rfl rfl (qv rfl rfl) <| qR 3 rfl <| qe rfl rfl rfl (w9 rfl rfl (by omega)) <| qR 6 rfl <| Q8 rfl rfl rfl (jD (q := x) (v := (f x).getD 0 + 1) rfl rfl rfl hst) ?_
      rintro _ _ ⟨o2, ho2, rfl⟩
      refine wG <| qW ⟨o2, ?_⟩ ?_
      · (try dsimp only); exact ⟨_, ho2, fun k => by rw [yn, yn]; unfold upd; split <;> simp [*]⟩
      · (try dsimp only); exact qX _
    ·
     refine wB rfl rfl rfl (jz (q := x) (zv := (0 : Int)) rfl rfl hal) ?_
     rintro t8 _ ⟨o1, st, rfl, hst, rfl⟩
     refine qJ 5 rfl rfl rfl (qv rfl rfl) <| qR 2 rfl <| qe rfl rfl rfl (WE (z := (0 : Int)) (q := x) (v := (f x).getD 0) (f := upd f x (some ((yB al x).getD 0))) rfl rfl (KU hst hag) (by rw [zW, hag]; rfl)) ?_
     refine qR 3 rfl <| qe rfl rfl rfl (w9 rfl rfl (by omega)) <| qR 6 rfl <| Q8 rfl rfl rfl (jD (q := x) (v := (f x).getD 0 + 1) rfl rfl rfl hst) ?_
     rintro _ _ ⟨o2, ho2, rfl⟩
     refine wG <| qW ⟨o2, ?_⟩ ?_
     · (try dsimp only); exact ⟨_, ho2, fun k => by rw [yn, yn]; unfold upd; split <;> simp [*]⟩
     · (try dsimp only); exact qX _
  rintro ⟨o2, hcut⟩
  replace hcut : MapF xW (Value.int .i64) (upd f x (some ((f x).getD 0 + 1))) o2 := hcut
  have hf2 := hcut
  show Tr _ _ _ ([(1, .pointer (some ⟨bm, 0, none⟩)), (2, .pointer (some ⟨bc, 0, none⟩)), (3, .pointer (some ⟨b3, 0, none⟩))]) ([(b3, .cells [.int .i64 x.1, .int .i64 x.2.1, .int .i64 x.2.2].toArray 160 (0, 0))] :: [(bm, .cells [Value.map (some r)].toArray 159 (0, 0))] :: [(r, o2)] :: [(bc, .cells [Value.int .i64 c].toArray 3 (0, 0))] :: F) _ _
  refine qP <| q9 (qH rfl rfl) <| q9 (wZ rfl) <| q9 (yQ (z := 0) (q := x) rfl rfl hf2) <| q9 (wl rfl rfl) <| qT ?_
  rw [zW]
  refine qI <| qL rfl (fun hc2 => ?_) (fun hc2 => ?_)
  ·
   refine qK <| q9 (qH rfl rfl) <| q9 (w9 rfl rfl (by omega)) <| qS (ws rfl rfl rfl) <| qT <| kH ([(bm, .cells [Value.map (some r)].toArray 159 (0, 0))] :: [(r, o2)] :: [(bc, .cells [Value.int .i64 (c + 1)].toArray 3 (0, 0))] :: F) (.inr rfl) rfl  ?_
   exact ⟨rfl, o2, hf2, by rw [if_pos (show (f x).getD 0 + 1 = 1 from hc2)]⟩
  ·
   refine qZ <| kH ([(bm, .cells [Value.map (some r)].toArray 159 (0, 0))] :: [(r, o2)] :: [(bc, .cells [Value.int .i64 c].toArray 3 (0, 0))] :: F) (.inr rfl) rfl  ?_
   exact ⟨rfl, o2, hf2, by rw [if_neg (show ¬ (f x).getD 0 + 1 = 1 from hc2)]⟩
theorem M8 {P : Program} {f : FuncId} {vs : List Value} {c d : Value} {R : Value → Res → Prop} [he : Enters P f] (h : FnT P w0 f (vs ++ [c, d]).toArray L R) : FnV P w0 (.func (.func f) #[] #[c, d]) vs L R := by
  have := Z0 (first := []) (captured := [c, d]) (vs := vs) (f := f) (P := P) (w0 := w0) (L := L) (R := R) (by simpa using h)
  exact this
theorem Xa {P : Program} {g : Value} {vs : List Value} {R : Value → Res → Prop} (c1 c2 c3 : qV) [ht : Take L [c1, c2, c3] F] (h : FnV P w0 g vs (c1 :: c2 :: c3 :: F) R) : FnV P w0 g vs L R :=
  FnV.pre h fun _ hw => hw.perm ht.perm
theorem XX (bm r bc : Nat) (o : Obj) (f : Int × Int × Int → Option Int) (hf : MapF xW (Value.int .i64) f o) (s : List (Int × Int × Int)) (m : Nat) (hs : Yn f s m) (hm : m ≤ 900000) (x : Int × Int × Int) :
    FnV Tryz.prog w0 (.func (.func 86) #[] #[.pointer (some ⟨bm, 0, none⟩), .pointer (some ⟨bc, 0, none⟩)]) [xW x] ([(bm, .cells [Value.map (some r)].toArray 159 (0, 0))] :: [(r, o)] :: [(bc, .cells [Value.int .i64 (1 + s.length)].toArray 3 (0, 0))] :: F)
      (fun v L' => v = .tuple #[] ∧ ∃ o' f', MapF xW (Value.int .i64) f' o' ∧ Yn f' (jb s x) (m + 1) ∧ L' = [(bm, .cells [Value.map (some r)].toArray 159 (0, 0))] :: [(r, o')] :: [(bc, .cells [Value.int .i64 (1 + (jb s x).length)].toArray 3 (0, 0))] :: F) := by
  have hst := seen_step hs x
  have hlen := hs.2.2
  refine M8 ((add_ok bm r bc o f hf x (1 + s.length) (by omega) (by have := hst.2.2; omega)).mono fun v L' h => ?_)
  obtain ⟨rfl, o', ho', rfl⟩ := h
  refine ⟨rfl, o', _, ho', hst.1, ?_⟩
  congr 5
  by_cases hx : x ∈ s
  · rw [if_neg (fun e => hst.2.1.1 e hx)]; unfold jb; rw [if_pos hx]
  · rw [if_pos (hst.2.1.2 hx)]; unfold jb; rw [if_neg hx]; simp; omega
theorem seenL_snoc (xs : List Int) (i : Nat) (q : Int) (hq : xs[i]? = some q) : Wc (xs.take (i + 1)) = (VZ q).foldl jb (Wc (xs.take i)) := by
  unfold Wc
  rw [List.take_add_one, hq, List.flatMap_append, List.foldl_append]; simp
theorem M1 (xs : List Int) (u : Value) (C : qV) (hs : SlC 3 1 u xs.length (iV xs) C) (hx : ∀ x ∈ xs, 0 ≤ x ∧ x < 1064) (hl : xs.length ≤ 1064) :
    FnT Tryz.prog w0 52 #[u] (C :: F) (fun v L' => v = .int .i64 (MP xs) ∧ L' = C :: F) := by
  obtain ⟨pu, cu, hu⟩ := hs.slice
  refine qh (E0 := [(0, _)]) (N := 48) Tryz.func52 rfl rfl rfl rfl ?_
  refine qP <| qD rfl <| qo <| qG (ki) ?_
  rintro t10 _ ⟨b10, rfl, rfl⟩
  refine qG (qn) ?_
  rintro t3 _ ⟨b3, rfl, rfl⟩
  refine qS (ws rfl rfl rfl) <| qo <| qG (qn) ?_
  rintro t4 _ ⟨b4, rfl, rfl⟩
  refine qS (ws rfl rfl rfl) <| qo <| q9 (wx rfl rfl) <| qD rfl <| qF <| qO <| qP <| qB rfl <| q9 (wD (by rw [← hu]; rfl)) ?_
  refine qB rfl <| qF <| qg <| wV (Γ := {pΓ : (Nat) × (Obj) × (Int × Int × Int → Option Int) // (fun (i : Nat) (o : Obj) (f : Int × Int × Int → Option Int) => i ≤ xs.length ∧ MapF xW (Value.int .i64) f o ∧ Yn f (Wc (xs.take i)) (3 * i)) pΓ.1 pΓ.2.1 pΓ.2.2}) (fun g => (fun (i : Nat) (o : Obj) (f : Int × Int × Int → Option Int) => [(4, .pointer (some ⟨b4, 0, none⟩)), (5, .func (.func 86) #[] #[.pointer (some ⟨b3, 0, none⟩), .pointer (some ⟨b4, 0, none⟩)]), (12, u), (13, .int .i64 xs.length), (14, .int .i64 i)]) g.1.1 g.1.2.1 g.1.2.2) (fun g => (fun (i : Nat) (o : Obj) (f : Int × Int × Int → Option Int) => [(b3, .cells [Value.map (some b10)].toArray 159 (0, 0))] :: [(b10, o)] :: [(b4, .cells [Value.int .i64 (1 + (Wc (xs.take i)).length)].toArray 3 (0, 0))] :: C :: F) g.1.1 g.1.2.1 g.1.2.2) (fun g => (fun (i : Nat) (o : Obj) (f : Int × Int × Int → Option Int) => xs.length - i) g.1.1 g.1.2.1 g.1.2.2) ⟨(0, _, fun _ => none), by dsimp only; exact ⟨by omega, kk _ _, ⟨fun k => (by simp [Wc]), fun k v h => (by cases h), (by simp [Wc])⟩⟩⟩ ((qX ([(b3, .cells [Value.map (some b10)].toArray 159 (0, 0))] :: [(b10, .map #[] 0)] :: [(b4, .cells [Value.int .i64 1].toArray 3 (0, 0))] :: C :: F))) ?_
  rintro ⟨⟨i, o, f⟩, hloop⟩
  replace hloop : i ≤ xs.length ∧ MapF xW (Value.int .i64) f o ∧ Yn f (Wc (xs.take i)) (3 * i) := hloop
  obtain ⟨hi, hf, hso⟩ := hloop
  show Tr _ _ _ ([(4, .pointer (some ⟨b4, 0, none⟩)), (5, .func (.func 86) #[] #[.pointer (some ⟨b3, 0, none⟩), .pointer (some ⟨b4, 0, none⟩)]), (12, u), (13, .int .i64 xs.length), (14, .int .i64 i)]) ([(b3, .cells [Value.map (some b10)].toArray 159 (0, 0))] :: [(b10, o)] :: [(b4, .cells [Value.int .i64 (1 + (Wc (xs.take i)).length)].toArray 3 (0, 0))] :: C :: F) _ _
  refine qP <| q9 (wL rfl rfl) <| qF <| qO <| qL rfl (fun hc5 => ?_) (fun hc5 => ?_)
  ·
   refine qZ <| qI <| qO <| qg <| qO ?_
   obtain ⟨q, hq⟩ : ∃ q, xs[i]? = some q := ⟨_, List.getElem?_eq_getElem (by omega)⟩
   have hqr := hx q (List.mem_of_getElem? hq)
   have hsn := seenL_snoc xs i q hq
   obtain ⟨s, hse⟩ : ∃ s, Wc (xs.take i) = s := ⟨_, rfl⟩
   rw [hse] at hso hsn ⊢
   obtain ⟨pl, hpl⟩ : ∃ pl, wW q = pl := ⟨_, rfl⟩
   unfold VZ at hsn
   rw [hpl] at hsn
   refine qK <| qG (yP (j := i) rfl rfl hs (by omega) (by omega)) ?_
   rintro t16 _ ⟨b, cap, spare, hqc, rfl, hcap, hnc, rfl, rfl⟩
   refine q9 (qH rfl (show wX _ _ = some (.int .i64 q) by rw [zK, Nat.mul_one, List.getElem?_append_left (by simp [iV]; omega)]; simp [iV, hq])) ?_
   refine qD rfl <| qo <| qB rfl <| q9 (wJ rfl (Vp q (by omega))) ?_
   rw [hpl]
   refine qB rfl <| q9 (qi rfl rfl) <| q9 (qi rfl rfl) <| qG (qn) ?_
   rintro t8 _ ⟨b8, rfl, rfl⟩
   refine qS (wj (vs := [.int .i64 pl.1, .int .i64 pl.2.1, .int .i64 pl.2.2]) rfl rfl rfl rfl) <| qD rfl <| qF <| qO <| qP <| qB rfl <| q9 (wz rfl rfl) <| qF <| qL rfl (fun hc8 => ?_) (fun hc8 => ?_)
   · exact absurd hc8 (by unfold xO; rw [if_neg (by omega), if_pos (by omega)]; simp)
   ·
    refine qZ <| qI <| qP <| qB rfl <| q9 (wZ rfl) <| qG (kX rfl rfl (Xa ([(b3, .cells [Value.map (some b10)].toArray 159 (0, 0))]) ([(b10, o)]) ([(b4, .cells [Value.int .i64 (1 + s.length)].toArray 3 (0, 0))]) (XX b3 b10 b4 o f hf s (3 * i) hso (by omega) pl))) ?_
    rintro t27 _ ⟨rfl, o1, f1, hf1, hso1, rfl⟩
    refine qF <| qO <| qP <| q9 (qA rfl) <| q9 (qH rfl rfl) <| q9 (wz rfl rfl) <| qF <| qL rfl (fun hc10 => ?_) (fun hc10 => ?_)
    ·
     refine qK <| qB rfl <| q9 (qA rfl) <| q9 (qH rfl rfl) <| q9 (qA rfl) <| q9 (qH rfl rfl) <| q9 (wa rfl) <| qG (kX rfl rfl (Xa ([(b3, .cells [Value.map (some b10)].toArray 159 (0, 0))]) ([(b10, o1)]) ([(b4, .cells [Value.int .i64 (1 + (jb s pl).length)].toArray 3 (0, 0))]) (XX b3 b10 b4 o1 f1 hf1 _ _ hso1 (by omega) (pl.1, pl.2.1, -1)))) ?_
     rintro t37 _ ⟨rfl, o2, f2, hf2, hso2, rfl⟩
     refine qo <| q9 (qA rfl) <| q9 (qH rfl rfl) <| q9 (wl rfl rfl) <| qF <| qL rfl (fun hc12 => ?_) (fun hc12 => ?_)
     ·
      rw [if_pos hc10, if_pos hc12, ← hc12] at hsn; simp only [List.cons_append, List.nil_append, List.foldl_cons, List.foldl_nil] at hsn
      refine qK <| qB rfl <| q9 (qA rfl) <| q9 (qH rfl rfl) <| q9 (wa rfl) <| qG (kX rfl rfl (Xa ([(b3, .cells [Value.map (some b10)].toArray 159 (0, 0))]) ([(b10, o2)]) ([(b4, .cells [Value.int .i64 (1 + (jb (jb s pl) (pl.1, pl.2.1, -1)).length)].toArray 3 (0, 0))]) (XX b3 b10 b4 o2 f2 hf2 _ _ hso2 (by omega) (pl.1, -1, -1)))) ?_
      rintro t45 _ ⟨rfl, o3, f3, hf3, hso3, rfl⟩
      refine qT <| qf <| qI <| qK <| q9 (w9 rfl rfl (by omega)) <| qB rfl <| qT <| w5 ⟨(i + 1, o3, f3), ?_⟩ ?_ ?_
      · (try dsimp only); rw [hsn]; exact ⟨by omega, hf3, hso3⟩
      · (try dsimp only); omega
      · (try dsimp only); exact (by rw [hsn]; exact qX _)
     ·
      rw [if_pos hc10, if_neg hc12] at hsn; simp only [List.append_nil, List.nil_append, List.foldl_cons, List.foldl_nil] at hsn
      refine qZ <| qf <| qI <| qK <| q9 (w9 rfl rfl (by omega)) <| qB rfl <| qT <| w5 ⟨(i + 1, o2, f2), ?_⟩ ?_ ?_
      · (try dsimp only); rw [hsn]; exact ⟨by omega, hf2, ⟨hso2.1, fun k v h => by have := hso2.2.1 k v h; omega, by have := hso2.2.2; omega⟩⟩
      · (try dsimp only); omega
      · (try dsimp only); exact (by rw [hsn]; exact qX _)
    ·
     refine qZ <| qI <| qP <| q9 (qA rfl) <| q9 (qH rfl rfl) <| q9 (wl rfl rfl) <| qF <| qL rfl (fun hc12 => ?_) (fun hc12 => ?_)
     · (exfalso; omega)
     ·
      rw [if_neg hc10, if_neg hc12] at hsn; simp only [List.append_nil, List.nil_append, List.foldl_cons, List.foldl_nil] at hsn
      refine qZ <| qf <| qI <| qK <| q9 (w9 rfl rfl (by omega)) <| qB rfl <| qT <| w5 ⟨(i + 1, o1, f1), ?_⟩ ?_ ?_
      · (try dsimp only); rw [hsn]; exact ⟨by omega, hf1, ⟨hso1.1, fun k v h => by have := hso1.2.1 k v h; omega, by have := hso1.2.2; omega⟩⟩
      · (try dsimp only); omega
      · (try dsimp only); exact (by rw [hsn]; exact qX _)
  ·
   refine wb <| qr <| qt <| qj <| qI <| qO ?_
   rw [List.take_of_length_le (by omega)]
   refine qK <| q9 (qH rfl rfl) <| qD rfl <| qF <| qz <| wF (C :: F) (.inl rfl) rfl (qu rfl) ?_
   exact ⟨rfl, rfl⟩
theorem Y7 (H : jJ w0) (p : Nat) (n : NS) (Cn : qV) (hn : NodeC p n Cn) (hok : NOk n) : FnT Tryz.prog w0 17 #[.pointer (some ⟨p, 0, none⟩)] (Cn :: F) (fun v L' => v = .int .i64 (MP (jI n)) ∧ L' = Cn :: F) := by
  refine qh (E0 := [(0, _)]) (N := 6) Tryz.func17 rfl rfl rfl rfl ?_
  refine qP <| qD rfl <| qo <| qB rfl <| qG (qx rfl (wc (Cn) (xS H p n Cn hn hok))) ?_
  rintro t4 _ ⟨C', hs, rfl⟩
  refine q9 (wJ rfl (zS (C') (M1 (jI n) t4 C' hs (fun x hx => KL hx) (Zz n)))) ?_
  refine qD rfl <| qF <| qz <| wF (Cn :: F) (.inl rfl) rfl (qu rfl) ?_
  exact ⟨rfl, rfl⟩
def Vb (gv : Value) (K : qV) (h : Int → Int × Int) : Prop := ∀ (w0 : World) (F : Res) (j : Nat), j < 32 → FnV Tryz.prog w0 gv [.int .i64 j] (K :: F) (fun v L' => v = yO (h j) ∧ L' = K :: F)
def KB (n : NS) (h : Int → Int × Int) : List Int := (List.range 32).map fun j : Nat => (n.at_ (h j)).getD 0
theorem WO {n : NS} (hok : NOk n) (h : Int → Int × Int) : jk (KB n h) := ⟨by simp [KB], fun a ha => by
  obtain ⟨j, _, rfl⟩ := List.mem_map.1 ha
  cases e : n.at_ (h j) with
  | none => simp
  | some v => have := hok.at2 _ _ e; simp; omega⟩
theorem atsN_get (n : NS) (h : Int → Int × Int) {j : Nat} (hj : j < 32) : (KB n h)[j]? = some ((n.at_ (h j)).getD 0) := by simp [KB, hj]
theorem Y0 {l : List Int} {i n : Nat} {x : Int} (hx : l[i]? = some x) (hn : i < n) :
    (iV (l.take i) ++ List.replicate (n - i) (Value.int .i64 0)).set (i * 1) (.int .i64 x) = iV (l.take (i + 1)) ++ List.replicate (n - (i + 1)) (Value.int .i64 0) := by
  have := Vw hx hn
  rwa [Nat.zero_add] at this
theorem Wg (p : Nat) (n : NS) (Cn K : qV) (hn : Wz p n Cn) (hok : NOk n) (gv : Value) (h : Int → Int × Int) (hp : Vb gv K h) :
    FnT Tryz.prog w0 100 #[.pointer (some ⟨p, 0, none⟩), gv] (Cn :: K :: F) (fun v L' => v = .agg (ww (xC (KB n h) (WO hok h))).toArray ∧ L' = Cn :: K :: F) := by
  refine Ki (F := K :: F) (Rv := fun v => v = .agg (ww (xC (KB n h) (WO hok h))).toArray) hn ?_
  intro ma md ms oa od os u C hm
  unfold kM zI
  obtain ⟨l, hl⟩ : ∃ l, KB n h = l := ⟨_, rfl⟩
  have hpl : jk l := hl ▸ WO hok h
  have hps : xC (KB n h) (WO hok h) = xC l hpl := by subst hl; rfl
  rw [hps]
  have hlen := hpl.len
  refine qh (E0 := [(0, _), (1, _)]) (N := 29) Tryz.func100 rfl rfl rfl rfl ?_
  refine qP <| qG (qn) ?_
  rintro t4 _ ⟨b4, rfl, rfl⟩
  refine qo <| qG (qn) ?_
  rintro t5 _ ⟨b5, rfl, rfl⟩
  refine qF <| qO <| qP <| qB rfl <| qF <| qg <| wV (Γ := {pΓ : (Nat) // (fun (i : Nat) => i ≤ 32) pΓ}) (fun g => (fun (i : Nat) => [(0, .pointer (some ⟨p, 0, none⟩)), (1, gv), (4, .pointer (some ⟨b4, 0, none⟩)), (5, .pointer (some ⟨b5, 0, none⟩)), (9, .int .i64 i)]) g.1) (fun g => (fun (i : Nat) => [(b5, .cells (iV (l.take i) ++ List.replicate (32 - i) (Value.int .i64 0)).toArray 175 (0, 0))] :: [(b4, .cells (ww Sec.zero).toArray 55 (0, 0))] :: [(p, .cells [.int .u32 n.num, .int .u32 n.ver, .int .i64 n.kind, .int .i64 n.size, .int .u32 n.time, .map (some ma), .map (some md), .map (some ms), u].toArray 90 (0, 0))] :: [(ma, oa)] :: [(md, od)] :: [(ms, os)] :: C :: K :: F) g.1) (fun g => (fun (i : Nat) => 32 - i) g.1) ⟨0, by dsimp only; exact (by omega)⟩ (yW rfl) ?_
  rintro ⟨i, hloop⟩
  replace hloop : i ≤ 32 := hloop
  obtain hi := hloop
  show Tr _ _ _ ([(0, .pointer (some ⟨p, 0, none⟩)), (1, gv), (4, .pointer (some ⟨b4, 0, none⟩)), (5, .pointer (some ⟨b5, 0, none⟩)), (9, .int .i64 i)]) ([(b5, .cells (iV (l.take i) ++ List.replicate (32 - i) (Value.int .i64 0)).toArray 175 (0, 0))] :: [(b4, .cells (ww Sec.zero).toArray 55 (0, 0))] :: [(p, .cells [.int .u32 n.num, .int .u32 n.ver, .int .i64 n.kind, .int .i64 n.size, .int .u32 n.time, .map (some ma), .map (some md), .map (some ms), u].toArray 90 (0, 0))] :: [(ma, oa)] :: [(md, od)] :: [(ms, os)] :: C :: K :: F) _ _
  refine qP <| q9 (wL rfl rfl) <| qF <| qO <| qL rfl (fun hc3 => ?_) (fun hc3 => ?_)
  ·
   refine qZ <| qI <| qO <| qg <| qP <| qB rfl <| qD rfl <| qT <| qI ?_
   have ha : l[i]? = some ((n.at_ (h i)).getD 0) := by rw [← hl]; exact atsN_get n h (by omega)
   refine wQ w8 <| wE [(12, .pure _), (13, .pure _), (14, .pure _), (15, .pure _), (16, .pure _), (17, .pure _), (18, .pure _), (19, .pure _), (20, .pure _)] (by kernel_rfl) rfl rfl rfl wd (qC rfl (fun X => qM rfl) <| qC rfl (fun X => qM rfl) <| qC rfl (fun X => qQ rfl) <| qC rfl (fun X => qA rfl) <| qC rfl (fun X => qH rfl rfl) <| qC rfl (fun X => qM rfl) <| qC rfl (fun X => qM rfl) <| qC rfl (fun X => kX rfl rfl (YL K (hp w0 _ i (by omega)))) <| qC rfl (fun X => yQ (z := 0) (q := h i) rfl rfl hm.a) <| ParH.nil rfl) ?_
   dsimp only [zQ, List.drop, List.length]
   refine qm (by kernel_rfl) (wo (j := i) (off := i * 1) rfl rfl rfl (by omega) (by simp)) ?_
   refine yU (by kernel_rfl) (yA rfl rfl (by simp; omega) rfl) ?_
   refine wI <| qf <| qI <| qK <| q9 (w9 rfl rfl (by omega)) <| qB rfl <| qT <| w5 ⟨i + 1, ?_⟩ ?_ ?_
   · (try dsimp only); omega
   · (try dsimp only); omega
   · (try dsimp only); exact yW (by rw [Y0 ha (by omega)])
  ·
   refine wb <| qr <| qt <| qj <| qI <| qO ?_
   obtain rfl : i = 32 := by omega
   rw [List.take_of_length_le (by omega : l.length ≤ 32), Nat.sub_self, List.replicate_zero, List.append_nil]
   refine qK <| q9 (wS rfl (by simp [hlen])) ?_
   refine q9 (wJ rfl (writePointers_ok l hpl)) <| qB rfl <| q9 (qi rfl rfl) <| q9 (qi rfl rfl) <| qG (qn) ?_
   rintro t7 _ ⟨b7, rfl, rfl⟩
   refine qS (qq rfl rfl (by simp) (by simp) (by exact wt _)) ?_
   refine qD rfl <| qo <| q9 (wS rfl (by simp)) ?_
   refine qS (qq rfl rfl (by simp) (by simp) (by exact wt _)) ?_
   refine qF <| qz <| wF ([(p, .cells [.int .u32 n.num, .int .u32 n.ver, .int .i64 n.kind, .int .i64 n.size, .int .u32 n.time, .map (some ma), .map (some md), .map (some ms), u].toArray 90 (0, 0))] :: [(ma, oa)] :: [(md, od)] :: [(ms, os)] :: C :: K :: F) (.inl rfl) rfl (zX rfl (by simp)) ?_
   exact ⟨rfl, rfl⟩
structure NFl (n : NS) : Prop where
  num : 0 ≤ n.num ∧ n.num < 65536
  ver : 0 ≤ n.ver ∧ n.ver < 4294967296
  kind : 1 ≤ n.kind ∧ n.kind ≤ 2
  size : 0 ≤ n.size ∧ n.size ≤ 136192
  time : 0 ≤ n.time ∧ n.time < 4294967296
def atN (n : NS) (k : Int × Int) : Int := (n.at_ k).getD 0
def KA (n : NS) : Ino := ⟨n.num, n.ver, n.kind, n.size, n.time, (List.range 8).map (fun j : Nat => atN n (1, j)), atN n (3, 0), atN n (4, 0)⟩
theorem XV {n : NS} (hok : NOk n) (k : Int × Int) : 0 ≤ atN n k ∧ atN n k ≤ 65535 := by
  unfold atN
  cases e : n.at_ k with
  | none => simp
  | some v => have := hok.at2 _ _ e; simp; omega
theorem Zy {n : NS} (hok : NOk n) (hf : NFl n) : (KA n).Ok := by
  have hs := hf.size
  refine ⟨hf.num, hf.ver, hf.kind, ?_, hf.time, by simp [KA], fun a ha => ?_, ?_, ?_⟩
  · show 0 ≤ n.size ∧ n.size < _; omega
  · obtain ⟨j, _, rfl⟩ := List.mem_map.1 ha
    have := XV hok (1, j); omega
  · have := XV hok (3, 0); show 0 ≤ atN n (3, 0) ∧ atN n (3, 0) < 4294967296; omega
  · have := XV hok (4, 0); show 0 ≤ atN n (4, 0) ∧ atN n (4, 0) < 4294967296; omega
theorem inode_ok (p : Nat) (n : NS) (Cn G : qV) (hn : Wz p n Cn) (hg : kn G) (hok : NOk n) (hf : NFl n) :
    FnT Tryz.prog w0 102 #[.pointer (some ⟨p, 0, none⟩)] (Cn :: G :: F) (fun v L' => v = .agg (ww (Zx (KA n) (Zy hok hf))).toArray ∧ L' = Cn :: G :: F) := by
  refine nodeg_read0 (F := F) (Rv := fun v => v = .agg (ww (Zx (KA n) (Zy hok hf))).toArray) hn hg ?_
  intro ma md ms oa od os u C e0 f0 e1 f1 e2 f2 hm
  unfold kM zI QG
  obtain ⟨l, hl⟩ : ∃ l, (List.range 8).map (fun j : Nat => atN n (1, j)) = l := ⟨_, rfl⟩
  have hlen : l.length = 8 := by rw [← hl]; simp
  have hget : ∀ j : Nat, j < 8 → l[j]? = some (atN n (1, j)) := fun j hj => by rw [← hl]; simp [hj]
  refine qh (E0 := [(0, _)]) (N := 60) Tryz.func102 rfl rfl rfl rfl ?_
  refine qP <| qG (qn) ?_
  rintro t2 _ ⟨b2, rfl, rfl⟩
  refine qF <| qO <| wQ w8 <| wE ((7, .pure _) :: (8, .pure _) :: (9, .pure _) :: (10, .pure _) :: (11, .pure _) :: (12, .pure _) :: (13, .pure _) :: (14, .pure _) :: (15, .pure _) :: (16, .pure _) :: (17, .pure _) :: (18, .pure _) :: (19, .pure _) :: (20, .pure _) :: (21, .pure _) :: (22, .pure _) :: (23, .pure _) :: (24, .pure _) :: (25, .pure _) :: (26, .pure _) :: (27, .pure _) :: (28, .pure _) :: (29, .pure _) :: (30, .pure _) :: (31, .pure _) :: (32, .pure _) :: (33, .pure _) :: (34, .pure _) :: (35, .pure _) :: (36, .pure _) :: (37, .pure _) :: (38, .pure _) :: (39, .pure _) :: (3, .act [] (VY _ 168)) :: []) (by kernel_rfl) rfl rfl rfl (jT [[]] rfl) (qC rfl (fun X => qM rfl) <| qC rfl (fun X => qQ rfl) <| qC rfl (fun X => qA rfl) <| qC rfl (fun X => qH rfl rfl) <| qC rfl (fun X => qM rfl) <| qC rfl (fun X => qQ rfl) <| qC rfl (fun X => qA rfl) <| qC rfl (fun X => qH rfl rfl) <| qC rfl (fun X => qM rfl) <| qC rfl (fun X => qQ rfl) <| qC rfl (fun X => qA rfl) <| qC rfl (fun X => qH rfl rfl) <| qC rfl (fun X => qM rfl) <| qC rfl (fun X => qQ rfl) <| qC rfl (fun X => qA rfl) <| qC rfl (fun X => qH rfl rfl) <| qC rfl (fun X => qM rfl) <| qC rfl (fun X => qQ rfl) <| qC rfl (fun X => qA rfl) <| qC rfl (fun X => qH rfl rfl) <| qC rfl (fun X => qM rfl) <| qC rfl (fun X => qQ rfl) <| qC rfl (fun X => qA rfl) <| qC rfl (fun X => qH rfl rfl) <| qC rfl (fun X => wZ rfl) <| qC rfl (fun X => yQ (z := 0) (q := (3, 0)) rfl rfl hm.a) <| qC rfl (fun X => qM rfl) <| qC rfl (fun X => qQ rfl) <| qC rfl (fun X => qA rfl) <| qC rfl (fun X => qH rfl rfl) <| qC rfl (fun X => wZ rfl) <| qC rfl (fun X => yQ (z := 0) (q := (4, 0)) rfl rfl hm.a) <| qC rfl (fun X => wa (z := [Value.int .u32 0, Value.int .u32 0, Value.int .i64 0, Value.int .i64 0, Value.int .u32 0, Value.int .i64 0, Value.int .i64 0, Value.int .i64 0, Value.int .i64 0, Value.int .i64 0, Value.int .i64 0, Value.int .i64 0, Value.int .i64 0, Value.int .i64 0, Value.int .i64 0]) (hz := .of (by kernel_rfl)) rfl) <| jr rfl (fun X => Zu) <| ParH.nil rfl) ?_
  rintro _ _ ⟨b3, rfl, rfl⟩
  dsimp only [zQ, List.drop, List.length]
  refine yU (by kernel_rfl) (qq rfl rfl Wq rfl (by simp [Value.oneCell'])) ?_
  refine wI <| qI <| qO <| qP <| qB rfl <| qF <| qg <| wV (Γ := {pΓ : (Nat) // (fun (i : Nat) => i ≤ 8) pΓ}) (fun g => (fun (i : Nat) => [(0, .pointer (some ⟨p, 0, none⟩)), (2, .pointer (some ⟨b2, 0, none⟩)), (3, .pointer (some ⟨b3, 0, none⟩)), (40, .int .i64 i)]) g.1) (fun g => (fun (i : Nat) => [(b3, .cells (yM { KA n with d := l.take i ++ List.replicate (8 - i) 0 }).toArray 168 (0, 0))] :: [(b2, .cells (ww Sec.zero).toArray 55 (0, 0))] :: [(p, .cells [.int .u32 n.num, .int .u32 n.ver, .int .i64 n.kind, .int .i64 n.size, .int .u32 n.time, .map (some ma), .map (some md), .map (some ms), u].toArray 90 (0, 0))] :: [(ma, oa)] :: [(md, od)] :: [(ms, os)] :: C :: [(0, .cells [Value.int .i64 2, Value.int .i64 0].toArray e0 f0)] :: [(1, .cells [Value.int .i64 4, Value.int .i64 0].toArray e1 f1)] :: [(2, .cells [Value.int .i64 3, Value.int .i64 0].toArray e2 f2)] :: F) g.1) (fun g => (fun (i : Nat) => 8 - i) g.1) ⟨0, by dsimp only; exact (by omega)⟩ (yW rfl) ?_
  rintro ⟨i, hloop⟩
  replace hloop : i ≤ 8 := hloop
  obtain hi := hloop
  show Tr _ _ _ ([(0, .pointer (some ⟨p, 0, none⟩)), (2, .pointer (some ⟨b2, 0, none⟩)), (3, .pointer (some ⟨b3, 0, none⟩)), (40, .int .i64 i)]) ([(b3, .cells (yM { KA n with d := l.take i ++ List.replicate (8 - i) 0 }).toArray 168 (0, 0))] :: [(b2, .cells (ww Sec.zero).toArray 55 (0, 0))] :: [(p, .cells [.int .u32 n.num, .int .u32 n.ver, .int .i64 n.kind, .int .i64 n.size, .int .u32 n.time, .map (some ma), .map (some md), .map (some ms), u].toArray 90 (0, 0))] :: [(ma, oa)] :: [(md, od)] :: [(ms, os)] :: C :: [(0, .cells [Value.int .i64 2, Value.int .i64 0].toArray e0 f0)] :: [(1, .cells [Value.int .i64 4, Value.int .i64 0].toArray e1 f1)] :: [(2, .cells [Value.int .i64 3, Value.int .i64 0].toArray e2 f2)] :: F) _ _
  refine qP <| q9 (wL rfl rfl) <| qF <| qO <| qL rfl (fun hc3 => ?_) (fun hc3 => ?_)
  ·
   refine qZ <| qI <| qO <| qg <| qP <| qB rfl <| qD rfl <| qF <| qK <| qB rfl <| qB rfl <| q9 (qQ rfl) <| q9 (qA rfl) <| q9 (qH rfl rfl) <| qB rfl <| q9 (wa rfl) <| q9 (yQ (z := 0) (q := (1, (i : Int))) rfl rfl hm.a) <| q9 (qA rfl) <| q9 (wo (j := i) (off := 5 + i * 1) rfl rfl rfl (by omega) (by simp)) ?_
   refine qS (yA rfl rfl (by simp [yM]; omega) rfl) ?_
   refine qT <| qf <| qI <| qK <| q9 (w9 rfl rfl (by omega)) <| qB rfl <| qT <| w5 ⟨i + 1, ?_⟩ ?_ ?_
   · (try dsimp only); omega
   · (try dsimp only); omega
   · (try dsimp only); exact yW (by have e := MD (y := { KA n with d := l.take i ++ List.replicate (8 - i) 0 }) (i := i) (a := atN n (1, i)) (by simp; omega); have e2 := VX (hget i (by omega)) (by omega) (by omega); dsimp only at e e2; rw [e2] at e; rw [show i * 1 = i from by omega]; rw [show (n.at_ (1, (i : Int))).getD 0 = atN n (1, i) from rfl, e])
  ·
   refine wb <| qr <| qt <| qj <| qI <| qO ?_
   obtain rfl : i = 8 := by omega
   have he : { KA n with d := l.take 8 ++ List.replicate (8 - 8) 0 } = KA n := by rw [List.take_of_length_le (by omega), Nat.sub_self, List.replicate_zero, List.append_nil, ← hl]; rfl
   rw [he]
   refine qK <| q9 (wS rfl (jB (Zy hok hf))) <| q9 (wJ rfl (writeInode_ok (KA n) (Zy hok hf))) <| qB rfl <| q9 (qi rfl rfl) <| q9 (qi rfl rfl) <| qG (qn) ?_
   rintro t5 _ ⟨b5, rfl, rfl⟩
   refine qS (qq rfl rfl (by simp) (by simp) (by exact wt _)) ?_
   refine qD rfl <| qo <| q9 (wS rfl (by simp)) ?_
   refine qS (qq rfl rfl (by simp) (by simp) (by exact wt _)) ?_
   refine qF <| qz <| wF ([(p, .cells [.int .u32 n.num, .int .u32 n.ver, .int .i64 n.kind, .int .i64 n.size, .int .u32 n.time, .map (some ma), .map (some md), .map (some ms), u].toArray 90 (0, 0))] :: [(ma, oa)] :: [(md, od)] :: [(ms, os)] :: C :: [(0, .cells [Value.int .i64 2, Value.int .i64 0].toArray e0 f0)] :: [(1, .cells [Value.int .i64 4, Value.int .i64 0].toArray e1 f1)] :: [(2, .cells [Value.int .i64 3, Value.int .i64 0].toArray e2 f2)] :: F) (.inl rfl) rfl (zX rfl (by simp)) ?_
   exact ⟨rfl, rfl⟩
def zV (l f : Int) (j : Int) : Int × Int := (1, (if l = 0 then 0 else if l = 1 then 8 else 40) + f * 32 + j)
theorem VB (l f : Int) (hl : 0 ≤ l ∧ l ≤ 2) (h1 : 1 ≤ l) (hf : 0 ≤ f ∧ (f = 0 ∨ l = 2 ∧ f < 32)) (b c : Nat) :
    Vb (.func (.func 98) #[] #[.pointer (some ⟨b, 0, none⟩), .pointer (some ⟨c, 0, none⟩)]) [(b, .cells [Value.int .i64 l].toArray 3 (0, 0)), (c, .cells [Value.int .i64 f].toArray 3 (0, 0))] (zV l f) := by
  intro w0 F j hj
  refine M8 ?_
  refine W7 (L1 := [(b, .cells [Value.int .i64 l].toArray 3 (0, 0))] :: [(c, .cells [Value.int .i64 f].toArray 3 (0, 0))] :: F) ?_ (by simp)
  refine qh (E0 := [(0, _), (1, _), (2, _)]) (N := 17) Tryz.func98 rfl rfl rfl rfl ?_
  refine qP <| qG (qn) ?_
  rintro t4 _ ⟨b4, rfl, rfl⟩
  refine qo <| q9 (qH rfl rfl) <| q9 (qH rfl rfl) <| qB rfl <| q9 (wa rfl) <| q9 (wJ rfl (Kx l f j hl hf ⟨by omega, by rw [if_neg (by omega)]; omega⟩)) <| qB rfl <| q9 (qi rfl rfl) <| q9 (qi rfl rfl) <| qD rfl <| qD rfl <| qo <| qB rfl <| q9 (wa rfl) <| qS (wj rfl rfl rfl rfl) <| qF <| qz <| wF ([(b, .cells [Value.int .i64 l].toArray 3 (0, 0))] :: [(c, .cells [Value.int .i64 f].toArray 3 (0, 0))] :: F) (.inl rfl) rfl (za rfl) ?_
  exact ⟨rfl, rfl⟩
theorem leaf_ok : Vb (.func (.func 101) #[] #[]) [] (fun j => (5, j)) := by
  intro w0 F j hj
  refine YM ?_
  refine qh (E0 := [(0, _)]) (N := 5) Tryz.func101 rfl rfl rfl rfl ?_
  refine qP <| qG (qn) ?_
  rintro t2 _ ⟨b2, rfl, rfl⟩
  refine qo <| qB rfl <| q9 (wa rfl) <| qS (wj rfl rfl rfl rfl) <| qF <| qz <| wF ([] :: F) (.inl rfl) rfl (za rfl) ?_
  exact ⟨rfl, rfl⟩
theorem Kl (l f : Int) : FnT Tryz.prog w0 97 #[.int .i64 l, .int .i64 f] F (fun v L' => ∃ b c, v = .func (.func 98) #[] #[.pointer (some ⟨b, 0, none⟩), .pointer (some ⟨c, 0, none⟩)] ∧ L' = [(b, .cells [Value.int .i64 l].toArray 3 (0, 0)), (c, .cells [Value.int .i64 f].toArray 3 (0, 0))] :: F) := by
  refine qh (E0 := [(0, _), (1, _)]) (N := 6) Tryz.func97 rfl rfl rfl rfl ?_
  refine qP <| qG (wq rfl) ?_
  rintro t2 _ ⟨b2, rfl, rfl⟩
  refine qG (wq rfl) ?_
  rintro t3 _ ⟨b3, rfl, rfl⟩
  refine qD rfl <| qo <| q9 (wx rfl rfl) <| qD rfl <| qT <| zM (L' := [(b2, .cells [Value.int .i64 l].toArray 3 (0, 0)), (b3, .cells [Value.int .i64 f].toArray 3 (0, 0))] :: F) (yV (by intro f; simp only [List.flatten_cons, List.flatten_nil, List.append_nil, List.countP_append, List.countP_cons, List.countP_nil]; omega)) ?_
  refine qI <| qz <| zn (.inl rfl) rfl (qu rfl) ?_
  exact ⟨b2, b3, rfl, rfl⟩
def yi (n : NS) (hok : NOk n) (hf : NFl n) (k : Int × Int) : Sec :=
  if k.1 = 1 then (n.data k.2).getD Sec.zero
  else if k.1 = 5 then xC (KB n (zV 2 k.2)) (WO hok _)
  else if k.1 = 3 then xC (KB n (zV 1 0)) (WO hok _)
  else if k.1 = 4 then xC (KB n (fun j => (5, j))) (WO hok _)
  else Zx (KA n) (Zy hok hf)
theorem YQ (p : Nat) (n : NS) (Cn G : qV) (hn : Wz p n Cn) (hg : kn G) (hok : NOk n) (hf : NFl n) (k : Int × Int) (hk : wC k) :
    FnT Tryz.prog w0 75 #[.pointer (some ⟨p, 0, none⟩), yO k] (Cn :: G :: F) (fun v L' => v = .agg (ww (yi n hok hf k)).toArray ∧ L' = Cn :: G :: F) := by
  obtain ⟨ma, md, ms, oa, od, os, u, C, hCn, hMa, hMd, hMs⟩ := id hn
  unfold zI at hCn
  unfold yO
  refine qh (E0 := [(0, _), (1, _)]) (N := 37) Tryz.func75 rfl rfl rfl rfl ?_
  refine qP <| qG (wq rfl) ?_
  rintro t3 _ ⟨b3, rfl, rfl⟩
  refine qG (qn) ?_
  rintro t4 _ ⟨b4, rfl, rfl⟩
  refine qo <| qD rfl <| qF <| qO <| qP <| q9 (qA rfl) <| q9 (qH rfl rfl) <| qF <| qg <| qP <| q9 (wl rfl rfl) <| qD rfl <| qF <| qL rfl (fun hc3 => ?_) (fun hc3 => ?_)
  ·
   refine yx (L' := [(b4, .cells (ww Sec.zero).toArray 55 (0, 0))] :: [(b3, .cells [.int .i64 k.1, .int .i64 k.2].toArray 100 (0, 0))] :: [(p, .cells [.int .u32 n.num, .int .u32 n.ver, .int .i64 n.kind, .int .i64 n.size, .int .u32 n.time, .map (some ma), .map (some md), .map (some ms), u].toArray 90 (0, 0))] :: [(ma, oa)] :: [(md, od)] :: [(ms, os)] :: C :: G :: F) (we (by rw [hCn]; simp)) ?_
   refine qO <| wQ w8 <| wE [(10, .pure _), (11, .pure _), (12, .pure _), (13, .pure _), (14, .pure _), (15, .pure _)] (by kernel_rfl) rfl rfl rfl wd (qC rfl (fun X => qM rfl) <| qC rfl (fun X => qQ rfl) <| qC rfl (fun X => qA rfl) <| qC rfl (fun X => qH rfl rfl) <| qC rfl (fun X => qA rfl) <| qC rfl (fun X => qH rfl rfl) <| ParH.nil rfl) ?_
   dsimp only [zQ, List.drop, List.length]
   refine qm (by kernel_rfl) (yQ (z := Sec.zero) (q := k.2) rfl rfl hMd) ?_
   refine yU (by kernel_rfl) (qq rfl rfl (by simp) (by simp) (wt _)) ?_
   refine wI <| zM (L' := [(b4, .cells (ww ((n.data k.2).getD Sec.zero)).toArray 55 (0, 0))] :: [(b3, .cells [.int .i64 k.1, .int .i64 k.2].toArray 100 (0, 0))] :: Cn :: G :: F) (we (by rw [hCn]; simp)) ?_
   refine qI <| qz <| wN <| w7 <| wF (Cn :: G :: F) (.inl rfl) rfl (zX rfl (by simp)) ?_
   exact ⟨by unfold yi; rw [if_pos hc3], rfl⟩
  ·
   refine qP <| q9 (wl rfl rfl) <| qD rfl <| qF <| qL rfl (fun hc5 => ?_) (fun hc5 => ?_)
   ·
    refine qP <| qB rfl <| qB rfl <| q9 (qA rfl) <| q9 (qH rfl rfl) <| qG (kX rfl rfl (YM (Kl 2 k.2))) ?_
    rintro t23 _ ⟨bl, bf, rfl, rfl⟩
    refine q9 (wJ rfl (yj (Cn) ([(bl, .cells [Value.int .i64 2].toArray 3 (0, 0)), (bf, .cells [Value.int .i64 k.2].toArray 3 (0, 0))]) (Wg p n Cn _ hn hok _ (zV 2 k.2) (VB 2 k.2 (by omega) (by omega) (by rcases hk with ⟨e, _⟩ | e | e | e | ⟨_, e⟩ <;> first | omega | (rw [e] at hc5; exact absurd hc5 (by decide))) bl bf)))) ?_
    refine qS (qq rfl rfl (by simp) (by simp) (wt _)) ?_
    refine qF <| qz <| wN <| w7 <| wF (Cn :: G :: F) (.inl rfl) rfl (zX rfl (by simp)) ?_
    exact ⟨by unfold yi; rw [if_neg hc3, if_pos hc5], rfl⟩
   ·
    refine qP <| q9 (wl rfl rfl) <| qD rfl <| qF <| qL rfl (fun hc7 => ?_) (fun hc7 => ?_)
    ·
     refine qP <| qB rfl <| qB rfl <| qG (kX rfl rfl (YM (Kl 1 0))) ?_
     rintro t29 _ ⟨bl, bf, rfl, rfl⟩
     refine q9 (wJ rfl (yj (Cn) ([(bl, .cells [Value.int .i64 1].toArray 3 (0, 0)), (bf, .cells [Value.int .i64 0].toArray 3 (0, 0))]) (Wg p n Cn _ hn hok _ (zV 1 0) (VB 1 0 (by omega) (by omega) (by omega) bl bf)))) <| qS (qq rfl rfl (by simp) (by simp) (wt _)) ?_
     refine qF <| qz <| wN <| w7 <| wF (Cn :: G :: F) (.inl rfl) rfl (zX rfl (by simp)) ?_
     exact ⟨by unfold yi; rw [if_neg hc3, if_neg hc5, if_pos hc7], rfl⟩
    ·
     refine qP <| q9 (wl rfl rfl) <| qD rfl <| qF <| qL rfl (fun hc9 => ?_) (fun hc9 => ?_)
     ·
      refine qP <| qB rfl <| q9 (wJ rfl (yj Cn [] (Wg p n Cn [] hn hok _ (fun j => (5, j)) leaf_ok))) ?_
      refine qS (qq rfl rfl (by simp) (by simp) (wt _)) ?_
      refine qF <| qz <| wN <| w7 <| wF (Cn :: G :: F) (.inl rfl) rfl (zX rfl (by simp)) ?_
      exact ⟨by unfold yi; rw [if_neg hc3, if_neg hc5, if_neg hc7, if_pos hc9], rfl⟩
     ·
      refine qZ <| qf <| qI <| qP <| qB rfl <| q9 (wJ rfl (yj (Cn) (G) (inode_ok p n Cn G hn hg hok hf))) <| qS (qq rfl rfl (by simp) (by simp) (wt _)) ?_
      refine qF <| qz <| wF (Cn :: G :: F) (.inl rfl) rfl (zX rfl (by simp)) ?_
      exact ⟨by unfold yi; rw [if_neg hc3, if_neg hc5, if_neg hc7, if_neg hc9], rfl⟩
def kZ (num ver : Int) (k : Int × Int) (s : Sec) : List Value := .int .i64 k.1 :: .int .u32 num :: .int .u32 ver :: .int .i64 k.2 :: ww s
theorem Yd (num ver : Int) (k : Int × Int) (s : Sec) : (kZ num ver k s).length = 132 := by simp [kZ]
instance (priority := high) : TyZero Tryz.prog 109 (.agg (.int .i64 0 :: .int .u32 0 :: .int .u32 0 :: .int .i64 0 :: ww Sec.zero).toArray) := .of (by kernel_rfl)
instance (priority := high) (a b c d : Value) (s : Sec) : LenC (a :: b :: c :: d :: ww s) 132 := ⟨by simp⟩
theorem QB (s : Sec) : (ww s).take 128 = ww s := List.take_of_length_le (by simp)
def kb : List (Int × Int) → List Int → (Int × Int → Option Int) × List Int → (Int × Int → Option Int) × List Int
  | k :: l, a :: bs, s => kb l bs (upd s.1 k (some a), if (s.1 k).getD 0 ≠ 0 then s.2 ++ [(s.1 k).getD 0] else s.2)
  | _, _, s => s
theorem K3 (bs : List Int) (s : (Int × Int → Option Int) × List Int) : kb [] bs s = s := by cases bs <;> rfl
theorem commitF_step {l : List (Int × Int)} {bs : List Int} {i : Nat} {k : Int × Int} {a : Int} (hk : l[i]? = some k) (ha : bs[i]? = some a) (s : (Int × Int → Option Int) × List Int) :
    kb (l.drop i) (bs.drop i) s = kb (l.drop (i + 1)) (bs.drop (i + 1)) (upd s.1 k (some a), if (s.1 k).getD 0 ≠ 0 then s.2 ++ [(s.1 k).getD 0] else s.2) := by
  rw [kR hk, kR ha, kb]
def MY (f : Int × Int → Option Int) : Prop := (∀ k, f k ≠ none → wC k) ∧ ∀ k a, f k = some a → 1 ≤ a ∧ a ≤ 65535
theorem atOk_upd {f : Int × Int → Option Int} (h : MY f) {k : Int × Int} (hk : wC k) {a : Int} (ha : 1 ≤ a ∧ a ≤ 65535) : MY (upd f k (some a)) := by
  refine ⟨fun q hq => ?_, fun q b hq => ?_⟩
  · by_cases e : q = k
    · subst e; exact hk
    · rw [wk _ _ e] at hq; exact h.1 q hq
  · by_cases e : q = k
    · subst e; rw [zW] at hq; cases hq; exact ha
    · rw [wk _ _ e] at hq; exact h.2 q b hq
noncomputable def Wk (n : NS) (ats : List Int) : NS := { n with at_ := (kb (yE n) ats (n.at_, n.gone)).1 }
noncomputable def Q3 (n : NS) (ats : List Int) : NS := { Wk n ats with data := fun _ => none, stale := fun _ => none, gone := [] }
noncomputable def xi (n : NS) (ats : List Int) : List Int := (kb (yE n) ats (n.at_, n.gone)).2
theorem JY {n : NS} {k : Int × Int} (h : k ∈ yE n) : wC k := by
  classical
  unfold yE at h
  exact (kY k).1 (List.mem_filter.1 h).1
theorem ZY (n : NS) : (yE n).length ≤ 1099 := by
  unfold yE
  refine Nat.le_trans (List.length_filter_le _ _) ?_
  simp [allParts]
theorem commitF_ok : ∀ (l : List (Int × Int)) (bs : List Int) (s : (Int × Int → Option Int) × List Int), (∀ k ∈ l, wC k) → (∀ a ∈ bs, 1 ≤ a ∧ a ≤ 65535) → MY s.1 → MY (kb l bs s).1 := by
  intro l
  induction l with
  | nil => intro bs s _ _ h; exact h
  | cons k l ih =>
    intro bs s hl ha h
    cases bs with
    | nil => exact h
    | cons a bs =>
      rw [kb]
      exact ih bs _ (fun x hx => hl x (by simp [hx])) (fun x hx => ha x (by simp [hx])) (atOk_upd h (hl k (by simp)) (ha a (by simp)))
theorem xz {n : NS} (hok : NOk n) {ats : List Int} (ha : ∀ a ∈ ats, 1 ≤ a ∧ a ≤ 65535) : NOk (Wk n ats) := by
  have h := commitF_ok (yE n) ats (n.at_, n.gone) (fun k hk => JY hk) ha ⟨hok.at1, hok.at2⟩
  exact ⟨hok.data, h.1, h.2, hok.stale⟩
theorem commitN_ok {n : NS} (hok : NOk n) {ats : List Int} (ha : ∀ a ∈ ats, 1 ≤ a ∧ a ≤ 65535) : NOk (Q3 n ats) := by
  have h := xz hok ha
  exact ⟨fun k hk => absurd rfl hk, h.at1, h.at2, fun k hk => absurd rfl hk⟩
theorem WH {n : NS} (hf : NFl n) (ats : List Int) : NFl (Wk n ats) := ⟨hf.num, hf.ver, hf.kind, hf.size, hf.time⟩
theorem badAt_ok (xs : List Int) : JI (.func (.func 74) #[] #[]) [] xs (fun i => decide (i < 1 ∨ 65536 ≤ i)) := by
  intro w0 F a ha
  refine YM ?_
  refine qh (E0 := [(0, _)]) (N := 9) Tryz.func74 rfl rfl rfl rfl ?_
  refine qP <| qD rfl <| qo <| qB rfl <| q9 (wL rfl rfl) <| qB rfl <| qY (s := 5) rfl (fun hg1_2 => ?_) (fun hg1_2 => ?_)
  ·
   refine qN rfl rfl rfl <| qN rfl rfl rfl <| q9 (qk rfl rfl) <| qD rfl <| qF <| qz <| wF ([] :: F) (.inl rfl) rfl (qu rfl) ?_
   exact ⟨by congr 1; simp [*], rfl⟩
  ·
   refine qE rfl rfl (qM rfl) <| qE rfl rfl (j2 rfl rfl) <| q9 (qU rfl rfl) <| qD rfl <| qF <| qz <| wF ([] :: F) (.inl rfl) rfl (qu rfl) ?_
   exact ⟨by congr 1; simp [*], rfl⟩
theorem Qi (H : jJ w0) (HP : xo) (p : Nat) (n : NS) (Cn G Ca : qV) (hn : NodeC p n Cn) (hg : kn G) (hok : NOk n) (ua : Value) (ats : List Int) (hat : SlC 3 1 ua ats.length (iV ats) Ca) (hlen : (yE n).length ≠ ats.length) (hl : ats.length ≤ 1000000) :
    FnT Tryz.prog w0 44 #[.pointer (some ⟨p, 0, none⟩), ua] (Cn :: G :: Ca :: F) (fun v L' => v = .tuple #[.slice none 0 0, .slice none 0 0, .int .i64 1] ∧ L' = Cn :: G :: Ca :: F) := by
  have hpl := ZY n
  obtain ⟨pu, cu, hu⟩ := hat.slice
  refine qh (E0 := [(0, _), (1, _)]) (N := 91) Tryz.func44 rfl rfl rfl rfl ?_
  refine qP <| qD rfl <| qD rfl <| qD rfl <| qo <| qB rfl <| qG (qx rfl (k0 (Cn) (G) (xZ H HP p n Cn G hn hg hok))) ?_
  rintro t16 _ ⟨Cp, hs, rfl⟩
  refine qD rfl <| qF <| qO <| qP <| qB rfl ?_
  obtain ⟨px, cx, rfl⟩ := hs.slice
  refine q9 (wD rfl) <| qB rfl <| q9 (wD (by rw [← hu]; rfl)) ?_
  refine q9 (wz rfl rfl) <| qB rfl <| qY (s := 22) rfl (fun hg2_5 => ?_) (fun hg2_5 => ?_)
  ·
   refine qN rfl rfl rfl <| qN rfl rfl rfl <| q9 (qk rfl rfl) <| qF <| zL rfl <| qP <| qD rfl <| qD rfl <| qD rfl <| qF <| qz <| w7 <| X1 (Cn :: G :: Ca :: F) (.inl rfl) rfl (qu rfl) (qu rfl) (qu rfl) ?_
   exact ⟨rfl, rfl⟩
  · (exfalso; omega)
theorem commit_ok (H : jJ w0) (HP : xo) (p : Nat) (n : NS) (Cn G Ca : qV) (hn : NodeC p n Cn) (hg : kn G) (hok : NOk n) (hfl : NFl n) (ua : Value) (ats : List Int) (hat : SlC 3 1 ua ats.length (iV ats) Ca) (hlen : (yE n).length = ats.length)
    (hr : ∀ a ∈ ats, 1 ≤ a ∧ a ≤ 65535) (hgl : n.gone.length ≤ 800000) :
    FnT Tryz.prog w0 44 #[.pointer (some ⟨p, 0, none⟩), ua] (Cn :: G :: Ca :: F) (fun v L' => ∃ ui ud Ci Cd Cn', v = .tuple #[ui, ud, .int .i64 0] ∧
      SlC 109 132 ui (yE n).length ((yE n).flatMap (fun k => kZ n.num n.ver k (yi (Wk n ats) (xz hok hr) (WH hfl ats) k))) Ci ∧
      SlC 3 1 ud (xi n ats).length (iV (srt (xi n ats))) Cd ∧ NodeC p (Q3 n ats) Cn' ∧ L' = Ci :: Cd :: Cn' :: G :: Ca :: F) := by
  have hpl := ZY n
  obtain ⟨pu, cu, hu⟩ := hat.slice
  obtain ⟨l, hl⟩ : ∃ l, yE n = l := ⟨_, rfl⟩
  have hlp : ∀ k ∈ l, wC k := fun k hk => JY (hl ▸ hk)
  have hany : ats.any (fun i => decide (i < 1 ∨ 65536 ≤ i)) = false := by
    rw [List.any_eq_false]
    intro a ha
    have := hr a ha
    simp; omega
  obtain ⟨m, hm⟩ : ∃ m, Wk n ats = m := ⟨_, rfl⟩
  have hmok : NOk m := hm ▸ xz hok hr
  have hmfl : NFl m := hm ▸ WH hfl ats
  have hsec : ∀ k, yi (Wk n ats) (xz hok hr) (WH hfl ats) k = yi m hmok hmfl k := by subst hm; exact fun _ => rfl
  simp only [hsec]
  rw [hl] at hpl hlen ⊢
  obtain ⟨ma, md, ms, oa, od, os, u, C, hM, hCn⟩ := hn.eq
  unfold zI at hCn
  refine qh (E0 := [(0, _), (1, _)]) (N := 91) Tryz.func44 rfl rfl rfl rfl ?_
  refine qP <| qD rfl <| qD rfl <| qD rfl <| qo <| qB rfl <| qG (qx rfl (k0 (Cn) (G) (xZ H HP p n Cn G hn hg hok))) ?_
  rintro t16 _ ⟨Cp, hs, rfl⟩
  refine qD rfl <| qF <| qO <| qP <| qB rfl ?_
  rw [hl] at hs
  obtain ⟨px, cx, rfl⟩ := hs.slice
  refine q9 (wD rfl) <| qB rfl <| q9 (wD (by rw [← hu]; rfl)) ?_
  refine q9 (wz rfl rfl) <| qB rfl <| qY (s := 22) rfl (fun hg2_5 => ?_) (fun hg2_5 => ?_)
  · (exfalso; omega)
  ·
   refine qE rfl rfl (qM rfl) <| qE rfl rfl (wJ rfl (yj Ca [] (xn _ ua [] Ca ats _ (badAt_ok ats) hat (by omega)))) <| q9 (qU rfl rfl) <| qT ?_
   rw [hany]
   refine qI <| wU rfl <| qZ <| qI <| qO <| yx (L' := Cp :: [(p, .cells [.int .u32 n.num, .int .u32 n.ver, .int .i64 n.kind, .int .i64 n.size, .int .u32 n.time, .map (some ma), .map (some md), .map (some ms), u].toArray 90 (0, 0))] :: [(ma, oa)] :: [(md, od)] :: [(ms, os)] :: C :: G :: Ca :: F) (we (by rw [hCn]; simp)) ?_
   refine qK <| qB rfl <| q9 (qQ rfl) <| q9 (qA rfl) <| q9 (qH rfl rfl) <| qD rfl <| qF <| qO <| qP <| qB rfl <| q9 (wD rfl) <| qB rfl <| qF <| qg <| wV (Γ := {pΓ : (Nat) × (Int × Int → Option Int) × (Obj) × (List Int) × (Value) × (qV) // (fun (i : Nat) (f : Int × Int → Option Int) (oa' : Obj) (dead : List Int) (ud : Value) (Cd : qV) => i ≤ l.length ∧ MapF yO (Value.int .i64) f oa' ∧ SlC 3 1 ud dead.length (iV dead) Cd ∧ dead.length ≤ 800000 + i ∧ kb (l.drop i) (ats.drop i) (f, dead) = kb l ats (n.at_, n.gone)) pΓ.1 pΓ.2.1 pΓ.2.2.1 pΓ.2.2.2.1 pΓ.2.2.2.2.1 pΓ.2.2.2.2.2}) (fun g => (fun (i : Nat) (f : Int × Int → Option Int) (oa' : Obj) (dead : List Int) (ud : Value) (Cd : qV) => [(0, .pointer (some ⟨p, 0, none⟩)), (1, ua), (7, .slice px l.length cx), (8, ud), (30, .slice px l.length cx), (31, .int .i64 l.length), (32, .int .i64 i)]) g.1.1 g.1.2.1 g.1.2.2.1 g.1.2.2.2.1 g.1.2.2.2.2.1 g.1.2.2.2.2.2) (fun g => (fun (i : Nat) (f : Int × Int → Option Int) (oa' : Obj) (dead : List Int) (ud : Value) (Cd : qV) => [(p, .cells [.int .u32 n.num, .int .u32 n.ver, .int .i64 n.kind, .int .i64 n.size, .int .u32 n.time, .map (some ma), .map (some md), .map (some ms), u].toArray 90 (0, 0))] :: [(ma, oa')] :: [(md, od)] :: [(ms, os)] :: Cd :: Cp :: Ca :: G :: F) g.1.1 g.1.2.1 g.1.2.2.1 g.1.2.2.2.1 g.1.2.2.2.2.1 g.1.2.2.2.2.2) (fun g => (fun (i : Nat) (f : Int × Int → Option Int) (oa' : Obj) (dead : List Int) (ud : Value) (Cd : qV) => l.length - i) g.1.1 g.1.2.1 g.1.2.2.1 g.1.2.2.2.1 g.1.2.2.2.2.1 g.1.2.2.2.2.2) ⟨(0, n.at_, oa, n.gone, u, C), by dsimp only; exact ⟨by omega, hM.a, hM.g, by omega, rfl⟩⟩ (qX _) ?_
   rintro ⟨⟨i, f, oa', dead, ud, Cd⟩, hloop⟩
   replace hloop : i ≤ l.length ∧ MapF yO (Value.int .i64) f oa' ∧ SlC 3 1 ud dead.length (iV dead) Cd ∧ dead.length ≤ 800000 + i ∧ kb (l.drop i) (ats.drop i) (f, dead) = kb l ats (n.at_, n.gone) := hloop
   obtain ⟨hi, hf, hsl, hdl, hcf⟩ := hloop
   show Tr _ _ _ ([(0, .pointer (some ⟨p, 0, none⟩)), (1, ua), (7, .slice px l.length cx), (8, ud), (30, .slice px l.length cx), (31, .int .i64 l.length), (32, .int .i64 i)]) ([(p, .cells [.int .u32 n.num, .int .u32 n.ver, .int .i64 n.kind, .int .i64 n.size, .int .u32 n.time, .map (some ma), .map (some md), .map (some ms), u].toArray 90 (0, 0))] :: [(ma, oa')] :: [(md, od)] :: [(ms, os)] :: Cd :: Cp :: Ca :: G :: F) _ _
   refine qP <| q9 (wL rfl rfl) <| qF <| qO <| qL rfl (fun hc6 => ?_) (fun hc6 => ?_)
   ·
    refine qZ <| qI <| qO <| qg <| qO ?_
    obtain ⟨k, hk⟩ : ∃ k, l[i]? = some k := ⟨_, List.getElem?_eq_getElem (by omega)⟩
    obtain ⟨a, ha⟩ : ∃ a, ats[i]? = some a := ⟨_, List.getElem?_eq_getElem (by omega)⟩
    rw [commitF_step hk ha] at hcf
    refine qK <| qB rfl <| qG (yP (j := i) rfl rfl hs (by omega) (by omega)) ?_
    rintro t35 _ ⟨b, cap, spare, hqc, rfl, hcap, hnc, rfl, rfl⟩
    refine q9 (zC (j := i) y4 rfl hk rfl) <| qG (qn) ?_
    rintro t10 _ ⟨b10, rfl, rfl⟩
    refine qD rfl <| qS (qq (l := [Value.int .i64 0, Value.int .i64 0]) (vs := [.int .i64 k.1, .int .i64 k.2]) rfl rfl rfl rfl rfl) <| qF <| zb (Γ := {pΓ : (List Int) × (Value) × (qV) // (fun (dead2 : List Int) (ud2 : Value) (Cd2 : qV) => SlC 3 1 ud2 dead2.length (iV dead2) Cd2 ∧ dead2 = (if (f k).getD 0 ≠ 0 then dead ++ [(f k).getD 0] else dead) ∧ dead2.length ≤ dead.length + 1) pΓ.1 pΓ.2.1 pΓ.2.2}) (fun g => (fun (dead2 : List Int) (ud2 : Value) (Cd2 : qV) => [(0, .pointer (some ⟨p, 0, none⟩)), (1, ua), (7, .slice px l.length cx), (8, ud2), (9, .int .i64 i), (10, .pointer (some ⟨b10, 0, none⟩)), (30, .slice px l.length cx), (31, .int .i64 l.length), (32, .int .i64 i)]) g.1.1 g.1.2.1 g.1.2.2) (fun g => (fun (dead2 : List Int) (ud2 : Value) (Cd2 : qV) => [(b10, .cells [.int .i64 k.1, .int .i64 k.2].toArray 100 (0, 0))] :: [(p, .cells [.int .u32 n.num, .int .u32 n.ver, .int .i64 n.kind, .int .i64 n.size, .int .u32 n.time, .map (some ma), .map (some md), .map (some ms), u].toArray 90 (0, 0))] :: [(ma, oa')] :: [(md, od)] :: [(ms, os)] :: Cd2 :: [(b, .cells (l.flatMap zP ++ spare).toArray 100 (0, 0))] :: Ca :: G :: F) g.1.1 g.1.2.1 g.1.2.2) ?_ ?_
    ·
     refine qO <| wQ w8 <| wE [(37, .pure _), (38, .pure _), (39, .pure _), (40, .pure _), (41, .pure _)] (by kernel_rfl) rfl rfl rfl wd (qC rfl (fun X => qM rfl) <| qC rfl (fun X => qQ rfl) <| qC rfl (fun X => qA rfl) <| qC rfl (fun X => qH rfl rfl) <| qC rfl (fun X => wZ rfl) <| ParH.nil rfl) ?_
     dsimp only [zQ, List.drop, List.length]
     refine qm (by kernel_rfl) (yQ (z := 0) (q := k) rfl rfl hf) ?_
     refine qm (by kernel_rfl) (z8 rfl) ?_
     refine wI <| qI <| qP <| qB rfl <| q9 (wz rfl rfl) <| qF <| qL rfl (fun hc9 => ?_) (fun hc9 => ?_)
     ·
      refine qK <| qB rfl <| qB rfl <| qG (wK rfl rfl rfl) ?_
      rintro t47 _ ⟨b47, rfl, rfl⟩
      refine qG (wg (m := 1) (sz := 1) rfl rfl hsl (wi (ys := iV [(f k).getD 0]) inferInstance rfl rfl) rfl Tryz.underlying39 rfl rfl (by omega)) ?_
      rintro t48 _ ⟨C', hs', rfl⟩
      refine qD rfl <| qT <| qW ⟨(dead ++ [(f k).getD 0], t48, C'), ?_⟩ ?_
      · (try dsimp only); exact ⟨by rw [List.length_append]; simpa [iV] using hs', by rw [if_pos hc9], by simp⟩
      · (try dsimp only); exact qX _
     ·
      refine qZ <| qW ⟨(dead, ud, Cd), ?_⟩ ?_
      · (try dsimp only); exact ⟨hsl, by rw [if_neg hc9], by omega⟩
      · (try dsimp only); exact qX _
    rintro ⟨⟨dead2, ud2, Cd2⟩, hcut⟩
    replace hcut : SlC 3 1 ud2 dead2.length (iV dead2) Cd2 ∧ dead2 = (if (f k).getD 0 ≠ 0 then dead ++ [(f k).getD 0] else dead) ∧ dead2.length ≤ dead.length + 1 := hcut
    obtain ⟨hsl2, hd2, hdl2⟩ := hcut
    show Tr _ _ _ ([(0, .pointer (some ⟨p, 0, none⟩)), (1, ua), (7, .slice px l.length cx), (8, ud2), (9, .int .i64 i), (10, .pointer (some ⟨b10, 0, none⟩)), (30, .slice px l.length cx), (31, .int .i64 l.length), (32, .int .i64 i)]) ([(b10, .cells [.int .i64 k.1, .int .i64 k.2].toArray 100 (0, 0))] :: [(p, .cells [.int .u32 n.num, .int .u32 n.ver, .int .i64 n.kind, .int .i64 n.size, .int .u32 n.time, .map (some ma), .map (some md), .map (some ms), u].toArray 90 (0, 0))] :: [(ma, oa')] :: [(md, od)] :: [(ms, os)] :: Cd2 :: [(b, .cells (l.flatMap zP ++ spare).toArray 100 (0, 0))] :: Ca :: G :: F) _ _
    rcases hat with ⟨-, h0, -⟩ | ⟨bA, capA, spA, rfl, hcsA, rfl, hcapA, hncA⟩
    · omega
    refine wQ w8 <| wE [(49, .pure _), (50, .pure _), (51, .pure _), (52, .pure _), (53, .pure _), (54, .pure _), (55, .pure _), (56, .pure _), (57, .pure _)] (by kernel_rfl) rfl rfl rfl wd (qC rfl (fun X => qM rfl) <| qC rfl (fun X => qQ rfl) <| qC rfl (fun X => qA rfl) <| qC rfl (fun X => qH rfl rfl) <| qC rfl (fun X => wZ rfl) <| qC rfl (fun X => qM rfl) <| qC rfl (fun X => qM rfl) <| qC rfl (fun X => qw (j := i) (off := i * 1) rfl rfl rfl (by omega) (by simp)) <| qC rfl (fun X => qH rfl (show wX (iV ats ++ spA) (i * 1) = some (.int .i64 a) by rw [zK, Nat.mul_one, List.getElem?_append_left (by simp; omega)]; simp [iV, ha])) <| ParH.nil rfl) ?_
    dsimp only [zQ, List.drop, List.length]
    refine zt (by kernel_rfl) (zR (r := ma) (q := k) (v := a) rfl rfl rfl hf) ?_
    rintro _ _ ⟨oa2, hf2, rfl⟩
    refine wI <| qf <| qI <| qK <| q9 (w9 rfl rfl (by omega)) <| qB rfl <| qT <| w5 ⟨(i + 1, upd f k (some a), oa2, dead2, ud2, Cd2), ?_⟩ ?_ ?_
    · (try dsimp only); exact ⟨by omega, hf2, hsl2, by omega, by rw [hd2]; exact hcf⟩
    · (try dsimp only); omega
    · (try dsimp only); exact qX _
   ·
    refine wb <| qr <| qt <| qj <| qI <| qO ?_
    rw [List.drop_of_length_le (by omega), K3] at hcf
    have hfm : m.at_ = f := by rw [← hm]; unfold Wk; rw [hl, ← hcf]
    have hdd : xi n ats = dead := by unfold xi; rw [hl, ← hcf]
    obtain ⟨C0, hC0⟩ : ∃ C0, C0 = ((p, .cells (zI n ma md ms u).toArray 90 (0, 0)) :: (ma, oa') :: (md, od) :: (ms, os) :: [] : qV) := ⟨_, rfl⟩
    have h0 : Wz p m C0 := ⟨ma, md, ms, oa', od, os, u, [], by rw [hC0, ← hm]; rfl, by rw [hfm]; exact hf, by rw [← hm]; exact hM.d, by rw [← hm]; exact hM.s⟩
    refine yx (L' := C0 :: Cd :: Cp :: Ca :: G :: F) (we (by rw [hC0]; simp [zI])) ?_
    have hnum : m.num = n.num := by rw [← hm]; rfl
    have hver : m.ver = n.ver := by rw [← hm]; rfl
    refine qK <| qD rfl <| qF <| qO <| qP <| qB rfl <| q9 (wD rfl) <| qB rfl <| qF <| qg <| wV (Γ := {pΓ : (Nat) × (Value) × (qV) // (fun (j : Nat) (ui : Value) (Ci : qV) => j ≤ l.length ∧ SlC 109 132 ui j ((l.take j).flatMap (fun k => kZ n.num n.ver k (yi m hmok hmfl k))) Ci) pΓ.1 pΓ.2.1 pΓ.2.2}) (fun g => (fun (j : Nat) (ui : Value) (Ci : qV) => [(0, .pointer (some ⟨p, 0, none⟩)), (8, ud), (12, ui), (59, .slice px l.length cx), (60, .int .i64 l.length), (61, .int .i64 j)]) g.1.1 g.1.2.1 g.1.2.2) (fun g => (fun (j : Nat) (ui : Value) (Ci : qV) => Ci :: C0 :: Cd :: Cp :: Ca :: G :: F) g.1.1 g.1.2.1 g.1.2.2) (fun g => (fun (j : Nat) (ui : Value) (Ci : qV) => l.length - j) g.1.1 g.1.2.1 g.1.2.2) ⟨(0, .slice none 0 0, []), by dsimp only; exact ⟨by omega, SlC.nil _ _⟩⟩ (qX _) ?_
    rintro ⟨⟨j, ui, Ci⟩, hloop⟩
    replace hloop : j ≤ l.length ∧ SlC 109 132 ui j ((l.take j).flatMap (fun k => kZ n.num n.ver k (yi m hmok hmfl k))) Ci := hloop
    obtain ⟨hj, hsi⟩ := hloop
    show Tr _ _ _ ([(0, .pointer (some ⟨p, 0, none⟩)), (8, ud), (12, ui), (59, .slice px l.length cx), (60, .int .i64 l.length), (61, .int .i64 j)]) (Ci :: C0 :: Cd :: Cp :: Ca :: G :: F) _ _
    refine qP <| q9 (wL rfl rfl) <| qF <| qO <| qL rfl (fun hc15 => ?_) (fun hc15 => ?_)
    ·
     refine qZ <| qI <| zb (Γ := {pΓ : (Value) × (qV) // (fun (uj : Value) (Cj : qV) => SlC 109 132 uj (j + 1) ((l.take (j + 1)).flatMap (fun k => kZ n.num n.ver k (yi m hmok hmfl k))) Cj) pΓ.1 pΓ.2}) (fun g => (fun (uj : Value) (Cj : qV) => [(0, .pointer (some ⟨p, 0, none⟩)), (8, ud), (12, uj), (59, .slice px l.length cx), (60, .int .i64 l.length), (61, .int .i64 j)]) g.1.1 g.1.2) (fun g => (fun (uj : Value) (Cj : qV) => Cj :: C0 :: Cd :: Cp :: Ca :: G :: F) g.1.1 g.1.2) ?_ ?_
     ·
      refine qg <| qO ?_
      obtain ⟨k, hk⟩ : ∃ k, l[j]? = some k := ⟨_, List.getElem?_eq_getElem (by omega)⟩
      refine qK <| qG (yP (j := j) rfl rfl hs (by omega) (by omega)) ?_
      rintro t63 _ ⟨b, cap, spare, hqc, rfl, hcap, hnc, rfl, rfl⟩
      refine q9 (zC (j := j) y4 rfl hk rfl) <| qG (qn) ?_
      rintro t14 _ ⟨b14, rfl, rfl⟩
      refine qS (qq (l := [Value.int .i64 0, Value.int .i64 0]) (vs := [.int .i64 k.1, .int .i64 k.2]) rfl rfl rfl rfl rfl) <| qF <| yT w8 (show TrS _ _ _ _ [false, false, false, false, false, false, false, false, false, false, false] _ _ _ from ?_)
      refine qJ 0 rfl rfl rfl (wP rfl) <| qJ 1 rfl rfl rfl (wP rfl) <| qJ 4 rfl rfl rfl (wP rfl) <| wy (i := 2) (j := 5) (by kernel_rfl) rfl ?_ ?_
      ·
       refine qe rfl rfl rfl (wZ rfl) <| wy (i := 3) (j := 5) (by kernel_rfl) rfl ?_ ?_
       ·
        refine qe rfl rfl rfl (wJ rfl (zS (C0) (Wr p m C0 h0 k))) <| qR 5 rfl <| qe rfl rfl rfl (wZ rfl) <| qR 6 rfl <| qe rfl rfl rfl (wJ rfl (yj (C0) (G) (YQ p m C0 G h0 hg hmok hmfl k (hlp k (List.mem_of_getElem? hk))))) <| qR 7 rfl <| qe rfl rfl rfl (wa rfl) <| qR 8 rfl <| wB rfl rfl rfl (wK rfl rfl rfl) ?_
        rintro t73 _ ⟨b73, rfl, rfl⟩
        refine qR 9 rfl <| wB rfl rfl rfl (wg (m := 1) (sz := 132) rfl rfl hsi (wi (ys := kZ n.num n.ver k (yi m hmok hmfl k)) inferInstance (by rw [← hnum, ← hver]; simp [kZ, QB]) (by simp [kZ])) (by simp [kZ, Value.oneCell', ww, u8s]) Tryz.underlying102 rfl (by simp [Value.cells]) (by omega)) ?_
        rintro t74 _ ⟨C', hs', rfl⟩
        refine qJ 10 rfl rfl rfl (wM rfl) <| wG <| qf <| qW ⟨(_, C'), ?_⟩ ?_
        · (try dsimp only); rw [List.take_add_one, hk, List.flatMap_append]; simpa using hs'
        · (try dsimp only); exact qX _
       ·
        refine qe rfl rfl rfl (wZ rfl) <| qR 3 rfl <| qe rfl rfl rfl (wJ rfl (zS (C0) (Wr p m C0 h0 k))) <| qR 6 rfl <| qe rfl rfl rfl (wJ rfl (yj (C0) (G) (YQ p m C0 G h0 hg hmok hmfl k (hlp k (List.mem_of_getElem? hk))))) <| qR 7 rfl <| qe rfl rfl rfl (wa rfl) <| qR 8 rfl <| wB rfl rfl rfl (wK rfl rfl rfl) ?_
        rintro t73 _ ⟨b73, rfl, rfl⟩
        refine qR 9 rfl <| wB rfl rfl rfl (wg (m := 1) (sz := 132) rfl rfl hsi (wi (ys := kZ n.num n.ver k (yi m hmok hmfl k)) inferInstance (by rw [← hnum, ← hver]; simp [kZ, QB]) (by simp [kZ])) (by simp [kZ, Value.oneCell', ww, u8s]) Tryz.underlying102 rfl (by simp [Value.cells]) (by omega)) ?_
        rintro t74 _ ⟨C', hs', rfl⟩
        refine qJ 10 rfl rfl rfl (wM rfl) <| wG <| qf <| qW ⟨(_, C'), ?_⟩ ?_
        · (try dsimp only); rw [List.take_add_one, hk, List.flatMap_append]; simpa using hs'
        · (try dsimp only); exact qX _
      ·
       refine qe rfl rfl rfl (wZ rfl) <| qR 2 rfl <| qe rfl rfl rfl (wZ rfl) <| qR 3 rfl <| qe rfl rfl rfl (wJ rfl (zS (C0) (Wr p m C0 h0 k))) <| qR 6 rfl <| qe rfl rfl rfl (wJ rfl (yj (C0) (G) (YQ p m C0 G h0 hg hmok hmfl k (hlp k (List.mem_of_getElem? hk))))) <| qR 7 rfl <| qe rfl rfl rfl (wa rfl) <| qR 8 rfl <| wB rfl rfl rfl (wK rfl rfl rfl) ?_
       rintro t73 _ ⟨b73, rfl, rfl⟩
       refine qR 9 rfl <| wB rfl rfl rfl (wg (m := 1) (sz := 132) rfl rfl hsi (wi (ys := kZ n.num n.ver k (yi m hmok hmfl k)) inferInstance (by rw [← hnum, ← hver]; simp [kZ, QB]) (by simp [kZ])) (by simp [kZ, Value.oneCell', ww, u8s]) Tryz.underlying102 rfl (by simp [Value.cells]) (by omega)) ?_
       rintro t74 _ ⟨C', hs', rfl⟩
       refine qJ 10 rfl rfl rfl (wM rfl) <| wG <| qf <| qW ⟨(_, C'), ?_⟩ ?_
       · (try dsimp only); rw [List.take_add_one, hk, List.flatMap_append]; simpa using hs'
       · (try dsimp only); exact qX _
     rintro ⟨⟨uj, Cj⟩, hcut⟩
     replace hcut : SlC 109 132 uj (j + 1) ((l.take (j + 1)).flatMap (fun k => kZ n.num n.ver k (yi m hmok hmfl k))) Cj := hcut
     have hsj := hcut
     show Tr _ _ _ ([(0, .pointer (some ⟨p, 0, none⟩)), (8, ud), (12, uj), (59, .slice px l.length cx), (60, .int .i64 l.length), (61, .int .i64 j)]) (Cj :: C0 :: Cd :: Cp :: Ca :: G :: F) _ _
     refine qK <| q9 (w9 rfl rfl (by omega)) <| qB rfl <| qT <| w5 ⟨(j + 1, uj, Cj), ?_⟩ ?_ ?_
     · (try dsimp only); exact ⟨by omega, hsj⟩
     · (try dsimp only); omega
     · (try dsimp only); exact qX _
    ·
     refine wb <| qr <| qt <| qj <| qI <| qO <| yx (L' := Ci :: [(p, .cells [.int .u32 n.num, .int .u32 n.ver, .int .i64 n.kind, .int .i64 n.size, .int .u32 n.time, .map (some ma), .map (some md), .map (some ms), u].toArray 90 (0, 0))] :: [(ma, oa')] :: [(md, od)] :: [(ms, os)] :: Cd :: Cp :: Ca :: G :: F) (we (by rw [hC0]; simp [zI])) ?_
     refine qK <| qB rfl <| qB rfl <| qB rfl <| qG (ki) ?_
     rintro t79 _ ⟨b79, rfl, rfl⟩
     refine qG (ki) ?_
     rintro t80 _ ⟨b80, rfl, rfl⟩
     refine q9 (qQ rfl) <| q9 (qA rfl) <| qS (ws rfl rfl rfl) <| q9 (qQ rfl) <| q9 (qA rfl) <| qS (ws rfl rfl rfl) <| q9 (qQ rfl) <| q9 (qA rfl) <| qS (ws rfl rfl rfl) <| qo <| qB rfl <| qG (qx rfl (wc (Cd) (H.sort _ ud dead.length dead Cd hsl rfl (by omega)))) ?_
     rintro t88 _ ⟨rfl, Cd', hsd, rfl⟩
     refine qo <| qB rfl <| qB rfl <| qD rfl <| qD rfl <| qD rfl <| qT <| zM (qX (Ci :: Cd' :: [(p, .cells [.int .u32 n.num, .int .u32 n.ver, .int .i64 n.kind, .int .i64 n.size, .int .u32 n.time, .map (some ma), .map (some b79), .map (some b80), .slice none 0 0].toArray 90 (0, 0))] :: [(ma, oa')] :: [(b79, .map #[] 0)] :: [(b80, .map #[] 0)] :: G :: Ca :: F)) <| zM (we (L' := Ci :: Cd' :: ((p, .cells (zI (Q3 n ats) ma b79 b80 (.slice none 0 0)).toArray 90 (0, 0)) :: (ma, oa') :: (b79, .map #[] 0) :: (b80, .map #[] 0) :: []) :: G :: Ca :: F) (by simp [zI, Q3, Wk])) ?_
     refine qI <| qz <| VM (.inl rfl) rfl (qu rfl) (qu rfl) (qu rfl) ?_
     have hjl : j = l.length := by omega
     rw [hjl, List.take_length] at hsi
     exact ⟨ui, ud, Ci, Cd', _, rfl, hsi, by rw [hdd]; exact hsd, ⟨ma, b79, b80, oa', _, _, .slice none 0 0, [], rfl, by rw [show (Q3 n ats).at_ = f from by rw [← hfm, ← hm]; rfl]; exact hf, kk _ _, kk _ _, SlC.nil _ _⟩, rfl⟩
end
end Go.Proofs.YtjikpomndbkfgaaGreatDoor
namespace Go.Sx
open Go
section
variable {P : Program} {N : Nat} {w0 : World} {E : Env} {L : Res}
theorem run_append_zeros {w : World} {t t' ty e sz by_ m : Nat} {k : IntKind} {z : Value} (ht : P.underlying t = some (.slice e)) (hsz : ∀ w, (sizeOf e).run P w = .ok sz w) (hb : TyBytes P e by_) (hz : ∀ w, (zeroValue e).run P w = .ok z w) (ht' : P.underlying t' = some (.int k))
    (hm : 1 ≤ m) (hs1 : 1 ≤ sz) (hroom : m * by_ ≤ 140737488355328) (hby : 1 ≤ by_) :
    ∃ nc d, m ≤ nc ∧ w.drawn ≤ d ∧ (Builtin.append_ #[t, t'] ty #[.slice none 0 0, .int .i64 (m : Int)]).run P w =
      .ok (.slice (some ⟨w.heap.size, 0, none⟩) m nc) { w with drawn := d, heap := w.heap.push (.cells (Builtin.zeroCells z.cells m ++ Builtin.zeroCells z.cells (nc - m)) e (0, 0)) } := by
  obtain ⟨nc, d, hch, hle, hdd⟩ := Wd (P := P) (w := w) m 0 e
  have hu := wA ht' w
  obtain ⟨bi, hbi, hbb⟩ : ∃ i, (∀ w, (typeInfo e).run P w = .ok i w) ∧ i.bytes = by_ := by
    have h0 := hb.h w
    cases hi : P.info? e with
    | none => simp [typeInfo, program, Sem.run, hi, stuck] at h0
    | some i =>
      have h1 : ∀ w, (typeInfo e).run P w = .ok i w := fun w => by simp [typeInfo, program, Sem.run, hi]
      rw [h1] at h0
      simp only [Result.andThen_ok, Result.ok.injEq] at h0
      exact ⟨i, h1, h0.1⟩
  have hfits : ¬ Builtin.nextslicecap m 0 * bi.bytes > 2 ^ 48 := by
    have := growslice_fits (bytes := by_) (show 0 < m by omega) hroom
    rw [hbb]; omega
  have hnm : m ≤ 140737488355328 := by
    have := Nat.le_mul_of_pos_right m hby
    omega
  have hmax : ¬ ((m : Nat) : Int) > IntKind.i64.max := by show ¬ (m : Int) > 2 ^ 63 - 1; omega
  have hw : IntKind.i64.wrap (m : Int) = m := KP (by omega)
  have hbig : ¬ (m : Int) * (bi.bytes : Int) > 2 ^ 48 := by
    rw [hbb]; show ¬ (m : Int) * (by_ : Int) > 281474976710656; rw [← Int.natCast_mul]; omega
  have hneg : ¬ (m : Int) < 0 := by omega
  have hz0 : ¬ m * sz = 0 := by
    have := Nat.mul_pos (show 0 < m by omega) (show 0 < sz by omega)
    omega
  have hgt : ¬ 0 + m ≤ 0 := by omega
  have hfc : ∀ w, (Builtin.firstCells sz 0 (.slice none 0 0)).run P w = Result.ok #[] w := fun w => rfl
  have hai : ∀ w, (asInt (.int .i64 (m : Int))).run P w = Result.ok (m : Int) w := fun w => rfl
  refine ⟨nc, d, hle, hdd, ?_⟩
  clear ht' hroom hb hbb
  simp only [Builtin.append_, List.getElem?_toArray, List.getElem?_cons_zero, List.getElem?_cons_succ, Sem.run_bind, wA ht, Result.andThen_ok, hsz, hu, Sem.run_pure, if_true, hai, hw, Sem.run_ite, if_neg hneg, hbi, if_neg hbig, Int.toNat_natCast, if_neg hgt, Nat.zero_add, hmax, false_and, if_false, if_neg hfits, hch, run_askRoom, Bool.not_true, Bool.false_eq_true, if_neg hz0, hz]
  rw [if_neg (show ¬ m ≤ 0 by omega)]
  simp only [hfc, Result.andThen_ok, Array.empty_append]
  rfl
theorem op_appendN {x y : Operand} {t t' ty e sz by_ m : Nat} {k : IntKind} {z : Value} [ht : y8 P t e] [hsz : TySize P e sz] [hb : TyBytes P e by_] [hz : TyZero P e z]
    (hx : opv E x = some (.slice none 0 0)) (hy : opv E y = some (.int .i64 (m : Int))) (ht' : P.underlying t' = some (.int k)) (hm : 1 ≤ m) (h1 : z.cells.all (·.oneCell') = true) (hzs : z.cells.size = sz) (hroom : m * by_ ≤ 140737488355328) (hs1 : Nat.ble 1 sz = true := by rfl) (hby : Nat.ble 1 by_ = true := by rfl) :
    OpT P N w0 E L (.call ⟨.builtin .append, #[x, y], #[t, t']⟩) ty (fun v' L' => ∃ (b nc : Nat) (spare : List Value), v' = .slice (some ⟨b, 0, none⟩) m nc ∧ m ≤ nc ∧ spare.length = nc * sz ∧ L' = [(b, .cells spare.toArray e (0, 0))] :: L) :=
  .of_runE fun o a w e1 _ h3 h4 => by
    obtain ⟨nc, d, hle, hd, hrun⟩ := run_append_zeros (P := P) (w := w) (ty := o.type) (t := t) (t' := t') (k := k) (m := m) ht.h hsz.s hb hz.h ht' hm (Nat.le_of_ble_eq_true hs1) hroom (Nat.le_of_ble_eq_true hby)
    refine ⟨_, _, { w with drawn := d, heap := w.heap.push (.cells (Builtin.zeroCells z.cells m ++ Builtin.zeroCells z.cells (nc - m)) e (0, 0)) }, ?_, ⟨w.heap.size, nc, (Builtin.zeroCells z.cells m ++ Builtin.zeroCells z.cells (nc - m)).toList, rfl, hle, ?_, rfl⟩, ?_⟩
    · obtain ⟨cc, h5⟩ := ya (P := P) (w := w) (vs := [.slice none 0 0, .int .i64 (m : Int)]) h3 (by simp [ji, hx, hy]) e1
      have happ : (builtin .append #[t, t'] o.type cc #[.slice none 0 0, .int .i64 (m : Int)]).run P w = ((Builtin.append_ #[t, t'] o.type #[.slice none 0 0, .int .i64 (m : Int)]).run P w).andThen fun v w' => .ok (.value v) w' := by simp [builtin]
      have h5' : (execOp a.eval o).run P w = ((Builtin.append_ #[t, t'] o.type #[.slice none 0 0, .int .i64 (m : Int)]).run P w).andThen fun v w' => .ok (.value v) w' := by rw [h5]; exact happ
      rw [h5', hrun]
      rfl
    · simp [x7, hzs]
      rw [← Nat.add_mul]; congr 1; omega
    · have := (h4.draw d hd).alloc (.cells (Builtin.zeroCells z.cells m ++ Builtin.zeroCells z.cells (nc - m)) e (0, 0))
      exact this
theorem MH {x : Operand} {t ty e : TypeId} {p : Option Addr} {n c : Nat} [hs : y8 P t e] (hx : opv E x = some (.slice p n c)) :
    Op1 P N w0 E L (.call ⟨.builtin .cap, #[x], #[t]⟩) ty (.int .i64 c) L :=
  .of_run fun o a w h1 _ h3 h4 => ⟨w, by
    obtain ⟨cs, h5⟩ := ya (P := P) (w := w) (vs := [.slice p n c]) h3 (by simp [ji, hx]) h1
    rw [h5]; simp [builtin, Builtin.cap_, wA hs.h, goInt], h4⟩
theorem QC {t ty e sz : Nat} [ht : y8 P t e] [hsz : TySize P e sz] :
    OpT P N w0 E L (.buildSlice t 0 ([] : List (Nat × Operand)).toArray) ty (fun v L' => ∃ b, v = .slice (some ⟨b, 0, none⟩) 0 0 ∧ L' = [(b, .cells ([] : List Value).toArray e (0, 0))] :: L) :=
  .of_runE fun o a w h1 _ h3 h4 => ⟨_, _, { w with heap := w.heap.push (.cells #[] e (0, 0)) }, by
    rw [execOp, h1]
    simp only [Instr.buildSlice, Sem.run_bind, wA ht.h, Result.andThen_ok, hsz.s]
    simp [Instr.fill, newRow, newObj, Sem.run]
    rw [show Array.range 0 = #[] from by apply Array.ext'; simp]; simp, ⟨_, rfl, rfl⟩, h4.alloc _⟩
end
end Go.Sx
namespace Go.Proofs.YtjikpomndbkfgaaGreatDoor
open Go Go.Sx Go.Nd
set_option maxRecDepth 10000
section
variable {w0 : World} {L F : Res}
theorem grow_ok (m : Nat) (hm : m ≤ 1000000) : FnT Tryz.prog w0 81 #[.slice none 0 0, .int .i64 m] F (fun v L' => ∃ C, SlC 3 1 v 0 [] C ∧ L' = C :: F) := by
  refine qh (E0 := [(0, _), (1, _)]) (N := 27) Tryz.func81 rfl rfl rfl rfl ?_
  refine qP <| qD rfl <| qF <| qO <| qP <| qB rfl <| q9 (wL rfl rfl) <| qF <| qL rfl (fun hc1 => ?_) (fun hc1 => ?_)
  · (exfalso; omega)
  ·
   refine qZ <| qI <| qO <| qP <| qB rfl <| qB rfl <| q9 (MH rfl) <| qB rfl <| q9 (wD rfl) <| q9 (y1 rfl rfl (by omega)) <| q9 (y1 rfl rfl (by omega)) <| qD rfl <| qT ?_
   rw [show (m : Int) - (((0 : Nat) : Int) - ((0 : Nat) : Int)) = m from by omega]
   refine qI <| qP <| qB rfl <| q9 (y9 rfl rfl) <| qF <| qL rfl (fun hc4 => ?_) (fun hc4 => ?_)
   ·
    refine qK <| qB rfl <| qB rfl <| q9 (MH rfl) <| q9 (kf (kl := .i64) (kh := .i64) (l := 0) (h := 0) rfl rfl rfl (by omega) (by omega) (by omega)) <| qB rfl <| qG (op_appendN (m := m) rfl rfl Tryz.underlying3 (by omega) (by simp [Value.cells, Value.oneCell']) rfl (by omega)) ?_
    rintro t22 _ ⟨b, nc, spare, rfl, hnc, hsp, rfl⟩
    refine qB rfl <| q9 (wD rfl) <| q9 (kf (kl := .i64) (kh := .i64) (l := 0) (h := 0) rfl rfl rfl (by omega) (by omega) (by omega)) <| qD rfl <| qo <| qB rfl <| qD rfl <| qF <| qz <| wF ([(b, .cells spare.toArray 3 (0, 0))] :: F) (.inl rfl) rfl (qu rfl) ?_
    exact ⟨_, .inr ⟨b, nc, spare, by simp [yl], by simp, rfl, by simpa [Value.cells] using hsp, by omega⟩, by simp⟩
   ·
    refine qZ <| qI <| qP <| qB rfl <| qD rfl <| qF <| qz <| wF ([] :: F) (.inl rfl) rfl (qu rfl) ?_
    exact ⟨[], SlC.nil _ _, rfl⟩
theorem WL (b : Nat) (v1 v2 : Value) (C1 C2 : qV) (xs ys : List Int) (h1 : SlC 3 1 v1 xs.length (iV xs) C1) (h2 : SlC 3 1 v2 ys.length (iV ys) C2) (hl : xs.length + ys.length ≤ 1000000) :
    FnT Tryz.prog w0 48 #[.slice (some ⟨b, 0, none⟩) 2 2] ([(b, .cells [v1, v2].toArray 39 (0, 0))] :: C1 :: C2 :: F) (fun v L' => ∃ C, SlC 3 1 v (xs ++ ys).length (iV (xs ++ ys)) C ∧ L' = C :: [(b, .cells [v1, v2].toArray 39 (0, 0))] :: C1 :: C2 :: F) := by
  obtain ⟨p1, c1, hv1⟩ := h1.slice
  obtain ⟨p2, c2, hv2⟩ := h2.slice
  refine qh (E0 := [(0, _)]) (N := 36) Tryz.func48 rfl rfl rfl rfl ?_
  refine qP <| qD rfl <| qo <| qD rfl <| qF <| qO <| qP <| qB rfl <| q9 (wD rfl) <| qB rfl <| qF <| qg <| wV (Γ := {pΓ : (Nat) × (Int) // (fun (j : Nat) (s : Int) => j ≤ 2 ∧ (j = 0 → s = 0) ∧ (j = 1 → s = xs.length) ∧ (j = 2 → s = xs.length + ys.length)) pΓ.1 pΓ.2}) (fun g => (fun (j : Nat) (s : Int) => [(0, .slice (some ⟨b, 0, none⟩) 2 2), (3, .int .i64 s), (9, .slice (some ⟨b, 0, none⟩) 2 2), (10, .int .i64 2), (11, .int .i64 j)]) g.1.1 g.1.2) (fun g => (fun (j : Nat) (s : Int) => [(b, .cells [v1, v2].toArray 39 (0, 0))] :: C1 :: C2 :: F) g.1.1 g.1.2) (fun g => (fun (j : Nat) (s : Int) => 2 - j) g.1.1 g.1.2) ⟨(0, 0), by dsimp only; exact (by omega)⟩ (qX _) ?_
  rintro ⟨⟨j, s⟩, hloop⟩
  replace hloop : j ≤ 2 ∧ (j = 0 → s = 0) ∧ (j = 1 → s = xs.length) ∧ (j = 2 → s = xs.length + ys.length) := hloop
  obtain ⟨hj, hs0, hs1, hs2⟩ := hloop
  show Tr _ _ _ ([(0, .slice (some ⟨b, 0, none⟩) 2 2), (3, .int .i64 s), (9, .slice (some ⟨b, 0, none⟩) 2 2), (10, .int .i64 2), (11, .int .i64 j)]) ([(b, .cells [v1, v2].toArray 39 (0, 0))] :: C1 :: C2 :: F) _ _
  refine qP <| q9 (wL rfl rfl) <| qF <| qO <| qL rfl (fun hc3 => ?_) (fun hc3 => ?_)
  ·
   refine qZ <| qI <| qO <| qg <| qO ?_
   obtain ⟨vj, nj, hvj, hn0, hn1, ⟨pj, cj, hvj2⟩⟩ : ∃ (vj : Value) (nj : Nat), ([v1, v2] : List Value)[j]? = some vj ∧ (j = 0 → nj = xs.length) ∧ (j = 1 → nj = ys.length) ∧ ∃ p c, vj = .slice p nj c := by
     have : j = 0 ∨ j = 1 := by omega
     rcases this with rfl | rfl
     · exact ⟨v1, _, rfl, fun _ => rfl, fun h => (by cases h), p1, c1, hv1⟩
     · exact ⟨v2, _, rfl, fun h => (by cases h), fun _ => rfl, p2, c2, hv2⟩
   refine qK <| q9 (qw (j := j) (off := j * 1) rfl rfl rfl (by omega) (by simp)) ?_
   refine q9 (qH rfl (show wX [v1, v2] (j * 1) = some vj by rw [zK, Nat.mul_one]; exact hvj)) <| qD rfl <| qo <| qB rfl <| qB rfl <| q9 (wD (by rw [hvj2]; rfl)) ?_
   refine q9 (w9 rfl rfl (by omega)) <| qD rfl <| qo <| qB rfl <| q9 (wL rfl rfl) <| qF <| qL rfl (fun hc6 => ?_) (fun hc6 => ?_)
   · (exfalso; omega)
   ·
    refine qZ <| qf <| qI <| qK <| q9 (w9 rfl rfl (by omega)) <| qB rfl <| qT <| w5 ⟨(j + 1, _), ?_⟩ ?_ ?_
    · (try dsimp only); refine ⟨by omega, ?_, ?_, ?_⟩ <;> omega
    · (try dsimp only); omega
    · (try dsimp only); exact qX _
  ·
   refine wb <| qr <| qt <| qj <| qI <| qO ?_
   obtain rfl : j = 2 := by omega
   obtain rfl : s = ((xs.length + ys.length : Nat) : Int) := by rw [hs2 rfl]; omega
   refine qK <| qB rfl <| qG (qx rfl (grow_ok (xs.length + ys.length) hl)) ?_
   rintro t24 _ ⟨Cg, hg, rfl⟩
   refine qD rfl <| qF <| qO <| qP <| qB rfl <| q9 (wD rfl) <| qB rfl <| qF <| qg <| wV (Γ := {pΓ : (Nat) × (Value) × (qV) × (List Int) // (fun (j : Nat) (uo : Value) (Co : qV) (zs : List Int) => j ≤ 2 ∧ SlC 3 1 uo zs.length (iV zs) Co ∧ (j = 0 → zs = []) ∧ (j = 1 → zs = xs) ∧ (j = 2 → zs = xs ++ ys)) pΓ.1 pΓ.2.1 pΓ.2.2.1 pΓ.2.2.2}) (fun g => (fun (j : Nat) (uo : Value) (Co : qV) (zs : List Int) => [(6, uo), (25, .slice (some ⟨b, 0, none⟩) 2 2), (26, .int .i64 2), (27, .int .i64 j)]) g.1.1 g.1.2.1 g.1.2.2.1 g.1.2.2.2) (fun g => (fun (j : Nat) (uo : Value) (Co : qV) (zs : List Int) => Co :: [(b, .cells [v1, v2].toArray 39 (0, 0))] :: C1 :: C2 :: F) g.1.1 g.1.2.1 g.1.2.2.1 g.1.2.2.2) (fun g => (fun (j : Nat) (uo : Value) (Co : qV) (zs : List Int) => 2 - j) g.1.1 g.1.2.1 g.1.2.2.1 g.1.2.2.2) ⟨(0, t24, Cg, []), by dsimp only; exact ⟨by omega, hg, fun _ => rfl, fun h => (by cases h), fun h => (by cases h)⟩⟩ (qX _) ?_
   rintro ⟨⟨j, uo, Co, zs⟩, hloop⟩
   replace hloop : j ≤ 2 ∧ SlC 3 1 uo zs.length (iV zs) Co ∧ (j = 0 → zs = []) ∧ (j = 1 → zs = xs) ∧ (j = 2 → zs = xs ++ ys) := hloop
   obtain ⟨hj2, hsl, hz0, hz1, hz2⟩ := hloop
   show Tr _ _ _ ([(6, uo), (25, .slice (some ⟨b, 0, none⟩) 2 2), (26, .int .i64 2), (27, .int .i64 j)]) (Co :: [(b, .cells [v1, v2].toArray 39 (0, 0))] :: C1 :: C2 :: F) _ _
   refine qP <| q9 (wL rfl rfl) <| qF <| qO <| qL rfl (fun hc11 => ?_) (fun hc11 => ?_)
   ·
    refine qZ <| qI <| qO <| qg <| qO ?_
    obtain ⟨vj, nj, zj, hvj, hnl, hz3, hrd⟩ : ∃ (vj : Value) (nj : Nat) (zj : List Int), ([v1, v2] : List Value)[j]? = some vj ∧ nj = zj.length ∧ ((j = 0 → zj = xs) ∧ (j = 1 → zj = ys)) ∧ Reads w0 (Co :: [(b, .cells [v1, v2].toArray 39 (0, 0))] :: C1 :: C2 :: F) vj nj 1 (iV zj) := by
      have : j = 0 ∨ j = 1 := by omega
      rcases this with rfl | rfl
      · exact ⟨v1, _, xs, rfl, rfl, ⟨fun _ => rfl, fun h => (by cases h)⟩, j6 h1⟩
      · exact ⟨v2, _, ys, rfl, rfl, ⟨fun h => (by cases h), fun _ => rfl⟩, j6 h2⟩
    have hbd : zs.length + nj ≤ 1000000 := by
      have : j = 0 ∨ j = 1 := by omega
      rcases this with e | e
      · rw [hnl, hz3.1 e, hz0 e]; simp; omega
      · rw [hnl, hz3.2 e, hz1 e]; omega
    refine qK <| q9 (qw (j := j) (off := j * 1) rfl rfl rfl (by omega) (by simp)) ?_
    refine q9 (qH rfl (show wX [v1, v2] (j * 1) = some vj by rw [zK, Nat.mul_one]; exact hvj)) <| qD rfl <| qF <| qK <| qB rfl <| qB rfl <| qG (wg (m := nj) (sz := 1) rfl rfl hsl hrd (by simp [iV, Value.oneCell']) Tryz.underlying39 rfl rfl (by omega)) ?_
    rintro t33 _ ⟨C', hs', rfl⟩
    refine qD rfl <| qT <| qf <| qI <| qK <| q9 (w9 rfl rfl (by omega)) <| qB rfl <| qT <| w5 ⟨(j + 1, t33, C', zs ++ zj), ?_⟩ ?_ ?_
    ·
     try dsimp only
     refine ⟨by omega, by rw [List.length_append, ← hnl]; simpa [iV] using hs', fun h => by omega, fun h => ?_, fun h => ?_⟩
     · have e : j = 0 := by omega
       rw [hz0 e, hz3.1 e]; rfl
     · have e : j = 1 := by omega
       rw [hz1 e, hz3.2 e]
    · (try dsimp only); omega
    · (try dsimp only); exact qX _
   ·
    refine wb <| qr <| qt <| qj <| qI <| qP <| qB rfl <| qD rfl <| qF <| qz <| wF (Co :: [(b, .cells [v1, v2].toArray 39 (0, 0))] :: C1 :: C2 :: F) (.inl rfl) rfl (qu rfl) ?_
    obtain rfl := hz2 (by omega)
    exact ⟨Co, hsl, rfl⟩
structure JG (w0 : World) : Prop where
  values : ∀ (F : Res) (b r : Nat) (e : TypeId) (fr : Nat × Nat) (o : Obj) (f : Int × Int → Option Int), MapF yO (Value.int .i64) f o → (∀ k, f k ≠ none → wC k) →
    FnT Tryz.prog w0 49 #[.func (.func 83) [].toArray [.pointer (some ⟨b, 0, none⟩)].toArray] ([(b, .cells [Value.map (some r)].toArray e fr)] :: [(r, o)] :: F)
      (fun v L' => ∃ xs C, SlC 3 1 v xs.length (iV xs) C ∧ xs.Perm (allParts.filterMap f) ∧ L' = C :: [(b, .cells [Value.map (some r)].toArray e fr)] :: [(r, o)] :: F)
theorem Qd (r : Nat) : FnT Tryz.prog w0 50 #[.map (some r)] F (fun v L' => ∃ b, v = .func (.func 83) [].toArray [.pointer (some ⟨b, 0, none⟩)].toArray ∧ L' = [(b, .cells [Value.map (some r)].toArray 88 (0, 0))] :: F) := by
  refine qh (E0 := [(0, _)]) (N := 4) Tryz.func50 rfl rfl rfl rfl ?_
  refine qP <| qG (wq rfl) ?_
  rintro t1 _ ⟨b1, rfl, rfl⟩
  refine qD rfl <| qo <| q9 (wx rfl rfl) <| qD rfl <| qF <| qz <| zn (.inl rfl) rfl (qu rfl) ?_
  exact ⟨_, rfl, rfl⟩
theorem QX (HV : JG w0) (b r : Nat) (o : Obj) (f : Int × Int → Option Int) (hf : MapF yO (Value.int .i64) f o) (hk : ∀ k, f k ≠ none → wC k) :
    FnT Tryz.prog w0 49 #[.func (.func 83) [].toArray [.pointer (some ⟨b, 0, none⟩)].toArray] ([(b, .cells [Value.map (some r)].toArray 88 (0, 0))] :: [(r, o)] :: F)
      (fun v L' => ∃ xs C p c, v = .slice p xs.length c ∧ SlC 3 1 (.slice p xs.length c) xs.length (iV xs) C ∧ xs.Perm (allParts.filterMap f) ∧ L' = C :: [(b, .cells [Value.map (some r)].toArray 88 (0, 0))] :: [(r, o)] :: F) :=
  (HV.values F b r 88 (0, 0) o f hf hk).mono fun v L' ⟨xs, C, h1, h2, h3⟩ => by
    obtain ⟨p, c, rfl⟩ := h1.slice
    exact ⟨xs, C, p, c, rfl, h1, h2, h3⟩
def xA (n : NS) : List Int := srt (allParts.filterMap n.at_ ++ n.gone)
theorem jF (f : Int × Int → Option Int) : (allParts.filterMap f).length ≤ 1099 := by
  refine Nat.le_trans (List.length_filterMap_le _ _) ?_
  simp [allParts]
theorem KV {xs ys : List Int} (h : xs.Perm ys) : srt xs = srt ys := by
  have key : ∀ l : List Int, (srt l).Pairwise (fun a b => a ≤ b) := fun l =>
    (List.pairwise_mergeSort (le := fun a b => decide (a ≤ b)) (fun a b c h1 h2 => by simp only [decide_eq_true_eq] at *; omega) (fun a b => by simp only [Bool.or_eq_true, decide_eq_true_eq]; omega) l).imp (fun h => of_decide_eq_true h)
  refine List.Perm.eq_of_pairwise (le := fun a b : Int => a ≤ b) (fun a b _ _ h1 h2 => by omega) (key xs) (key ys) ?_
  exact (List.mergeSort_perm xs _).trans (h.trans (List.mergeSort_perm ys _).symm)
theorem sectors_ok (H : jJ w0) (HV : JG w0) (p : Nat) (n : NS) (Cn : qV) (hn : NodeC p n Cn) (hok : NOk n) (hgl : n.gone.length ≤ 800000) :
    FnT Tryz.prog w0 16 #[.pointer (some ⟨p, 0, none⟩)] (Cn :: F) (fun v L' => ∃ C', SlC 3 1 v (xA n).length (iV (xA n)) C' ∧ L' = C' :: Cn :: F) := by
  obtain ⟨ma, md, ms, oa, od, os, u, C, hM, hCn⟩ := hn.eq
  unfold zI at hCn
  obtain ⟨pu, cu, rfl⟩ := hM.g.slice
  refine FnT.pre (L' := [(p, .cells [.int .u32 n.num, .int .u32 n.ver, .int .i64 n.kind, .int .i64 n.size, .int .u32 n.time, .map (some ma), .map (some md), .map (some ms), .slice pu n.gone.length cu].toArray 90 (0, 0))] :: [(ma, oa)] :: [(md, od)] :: [(ms, os)] :: C :: F) ?_ (we (by rw [hCn]; simp))
  refine qh (E0 := [(0, _)]) (N := 19) Tryz.func16 rfl rfl rfl rfl ?_
  refine qP <| qD rfl <| qF <| zb (Γ := {pΓ : (Value) × (qV) × (List Int) // (fun (uo : Value) (Co : qV) (zs : List Int) => SlC 3 1 uo zs.length (iV zs) Co ∧ zs.Perm (allParts.filterMap n.at_ ++ n.gone)) pΓ.1 pΓ.2.1 pΓ.2.2}) (fun g => (fun (uo : Value) (Co : qV) (zs : List Int) => [(3, uo)]) g.1.1 g.1.2.1 g.1.2.2) (fun g => (fun (uo : Value) (Co : qV) (zs : List Int) => Co :: [(p, .cells [.int .u32 n.num, .int .u32 n.ver, .int .i64 n.kind, .int .i64 n.size, .int .u32 n.time, .map (some ma), .map (some md), .map (some ms), .slice pu n.gone.length cu].toArray 90 (0, 0))] :: [(ma, oa)] :: [(md, od)] :: [(ms, os)] :: C :: F) g.1.1 g.1.2.1 g.1.2.2) ?_ ?_
  ·
   refine yT w8 (show TrS _ _ _ _ [false, false, false, false, false, false, false, false, false, false, false, false, false] _ _ _ from ?_)
   refine qJ 0 rfl rfl rfl (wP rfl) <| qJ 1 rfl rfl rfl (zw rfl) <| qJ 2 rfl rfl rfl (wn rfl) <| qJ 6 rfl rfl rfl (wP rfl) <| qJ 7 rfl rfl rfl (zw rfl) <| qJ 8 rfl rfl rfl (wn rfl) <| wy (i := 3) (j := 9) (by kernel_rfl) rfl ?_ ?_
   ·
    refine qe rfl rfl rfl (qH rfl rfl) <| wy (i := 4) (j := 9) (by kernel_rfl) rfl ?_ ?_
    ·
     refine wB rfl rfl rfl (qx rfl (Qd ma)) ?_
     rintro t8 _ ⟨bk, rfl, rfl⟩
     refine wy (i := 5) (j := 9) (by kernel_rfl) rfl ?_ ?_
     ·
      refine wB rfl rfl rfl (qx rfl (k0 ([(bk, .cells [Value.map (some ma)].toArray 88 (0, 0))]) ([(ma, oa)]) (QX HV bk ma oa n.at_ hM.a hok.at1))) ?_
      rintro t9 _ ⟨xs, Cx, px, cx, rfl, hx, hxp, rfl⟩
      refine qR 9 rfl <| qe rfl rfl rfl (qH rfl rfl) <| qR 10 rfl <| wB rfl rfl rfl (wK rfl rfl rfl) ?_
      rintro t14 _ ⟨b14, rfl, rfl⟩
      refine qR 11 rfl <| wB rfl rfl rfl (qx rfl (ku ([(b14, .cells [.slice px xs.length cx, .slice pu n.gone.length cu].toArray 39 (0, 0))]) (Cx) (C) (WL b14 (.slice px xs.length cx) (.slice pu n.gone.length cu) Cx C xs n.gone hx hM.g (by rw [hxp.length_eq]; have := jF n.at_; omega)))) ?_
      rintro t15 _ ⟨Co, hs, rfl⟩
      refine qJ 12 rfl rfl rfl (wM rfl) <| wG <| qW ⟨(_, Co, xs ++ n.gone), ?_⟩ ?_
      · (try dsimp only); exact ⟨hs, hxp.append_right _⟩
      · (try dsimp only); exact qX _
     ·
      refine qe rfl rfl rfl (qH rfl rfl) <| qR 5 rfl <| wB rfl rfl rfl (qx rfl (k0 ([(bk, .cells [Value.map (some ma)].toArray 88 (0, 0))]) ([(ma, oa)]) (QX HV bk ma oa n.at_ hM.a hok.at1))) ?_
      rintro t9 _ ⟨xs, Cx, px, cx, rfl, hx, hxp, rfl⟩
      refine qR 10 rfl <| wB rfl rfl rfl (wK rfl rfl rfl) ?_
      rintro t14 _ ⟨b14, rfl, rfl⟩
      refine qR 11 rfl <| wB rfl rfl rfl (qx rfl (ku ([(b14, .cells [.slice px xs.length cx, .slice pu n.gone.length cu].toArray 39 (0, 0))]) (Cx) (C) (WL b14 (.slice px xs.length cx) (.slice pu n.gone.length cu) Cx C xs n.gone hx hM.g (by rw [hxp.length_eq]; have := jF n.at_; omega)))) ?_
      rintro t15 _ ⟨Co, hs, rfl⟩
      refine qJ 12 rfl rfl rfl (wM rfl) <| wG <| qW ⟨(_, Co, xs ++ n.gone), ?_⟩ ?_
      · (try dsimp only); exact ⟨hs, hxp.append_right _⟩
      · (try dsimp only); exact qX _
    ·
     refine qe rfl rfl rfl (qH rfl rfl) <| qR 4 rfl <| wB rfl rfl rfl (qx rfl (Qd ma)) ?_
     rintro t8 _ ⟨bk, rfl, rfl⟩
     refine qR 5 rfl <| wB rfl rfl rfl (qx rfl (k0 ([(bk, .cells [Value.map (some ma)].toArray 88 (0, 0))]) ([(ma, oa)]) (QX HV bk ma oa n.at_ hM.a hok.at1))) ?_
     rintro t9 _ ⟨xs, Cx, px, cx, rfl, hx, hxp, rfl⟩
     refine qR 10 rfl <| wB rfl rfl rfl (wK rfl rfl rfl) ?_
     rintro t14 _ ⟨b14, rfl, rfl⟩
     refine qR 11 rfl <| wB rfl rfl rfl (qx rfl (ku ([(b14, .cells [.slice px xs.length cx, .slice pu n.gone.length cu].toArray 39 (0, 0))]) (Cx) (C) (WL b14 (.slice px xs.length cx) (.slice pu n.gone.length cu) Cx C xs n.gone hx hM.g (by rw [hxp.length_eq]; have := jF n.at_; omega)))) ?_
     rintro t15 _ ⟨Co, hs, rfl⟩
     refine qJ 12 rfl rfl rfl (wM rfl) <| wG <| qW ⟨(_, Co, xs ++ n.gone), ?_⟩ ?_
     · (try dsimp only); exact ⟨hs, hxp.append_right _⟩
     · (try dsimp only); exact qX _
   ·
    refine qe rfl rfl rfl (qH rfl rfl) <| qR 3 rfl <| qe rfl rfl rfl (qH rfl rfl) <| qR 4 rfl <| wB rfl rfl rfl (qx rfl (Qd ma)) ?_
    rintro t8 _ ⟨bk, rfl, rfl⟩
    refine qR 5 rfl <| wB rfl rfl rfl (qx rfl (k0 ([(bk, .cells [Value.map (some ma)].toArray 88 (0, 0))]) ([(ma, oa)]) (QX HV bk ma oa n.at_ hM.a hok.at1))) ?_
    rintro t9 _ ⟨xs, Cx, px, cx, rfl, hx, hxp, rfl⟩
    refine qR 10 rfl <| wB rfl rfl rfl (wK rfl rfl rfl) ?_
    rintro t14 _ ⟨b14, rfl, rfl⟩
    refine qR 11 rfl <| wB rfl rfl rfl (qx rfl (ku ([(b14, .cells [.slice px xs.length cx, .slice pu n.gone.length cu].toArray 39 (0, 0))]) (Cx) (C) (WL b14 (.slice px xs.length cx) (.slice pu n.gone.length cu) Cx C xs n.gone hx hM.g (by rw [hxp.length_eq]; have := jF n.at_; omega)))) ?_
    rintro t15 _ ⟨Co, hs, rfl⟩
    refine qJ 12 rfl rfl rfl (wM rfl) <| wG <| qW ⟨(_, Co, xs ++ n.gone), ?_⟩ ?_
    · (try dsimp only); exact ⟨hs, hxp.append_right _⟩
    · (try dsimp only); exact qX _
  rintro ⟨⟨uo, Co, zs⟩, hcut⟩
  replace hcut : SlC 3 1 uo zs.length (iV zs) Co ∧ zs.Perm (allParts.filterMap n.at_ ++ n.gone) := hcut
  obtain ⟨hsl, hpm⟩ := hcut
  show Tr _ _ _ ([(3, uo)]) (Co :: [(p, .cells [.int .u32 n.num, .int .u32 n.ver, .int .i64 n.kind, .int .i64 n.size, .int .u32 n.time, .map (some ma), .map (some md), .map (some ms), .slice pu n.gone.length cu].toArray 90 (0, 0))] :: [(ma, oa)] :: [(md, od)] :: [(ms, os)] :: C :: F) _ _
  refine qP <| qB rfl <| qG (qx rfl (wc (Co) (H.sort _ uo zs.length zs Co hsl rfl (by rw [hpm.length_eq, List.length_append]; have := jF n.at_; omega)))) ?_
  rintro t17 _ ⟨rfl, C', hs', rfl⟩
  refine qo <| qB rfl <| qD rfl <| qT <| zM (qX (C' :: [(p, .cells [.int .u32 n.num, .int .u32 n.ver, .int .i64 n.kind, .int .i64 n.size, .int .u32 n.time, .map (some ma), .map (some md), .map (some ms), .slice pu n.gone.length cu].toArray 90 (0, 0))] :: [(ma, oa)] :: [(md, od)] :: [(ms, os)] :: C :: F)) <| zM (we (L' := C' :: Cn :: F) (by rw [hCn]; simp)) ?_
  refine qI <| qz <| zn (.inl rfl) rfl (qu rfl) <| ⟨C', ?_, rfl⟩
  rw [show xA n = srt zs from (KV hpm).symm, Z5]
  exact hs'
instance (q : Int × Int) : IntsV (zP q) [.i64, .i64] [q.1, q.2] := ⟨rfl, rfl⟩
def MW (xs : List (Int × Int)) (k : Int × Int) : Int := if k ∈ xs then (xs.findIdx (fun q => decide (k = q)) : Int) else -1
theorem XG {k q : Int × Int} : [k.1, k.2] = [q.1, q.2] ↔ k = q := by simp [Prod.ext_iff]
theorem indexP_ok (u : Value) (C : qV) (xs : List (Int × Int)) (k : Int × Int) (hs : SlC 100 2 u xs.length (xs.flatMap zP) C) (hl : xs.length ≤ 1000000) :
    FnT Tryz.prog w0 117 #[u, yO k] (C :: F) (fun v L' => v = .int .i64 (MW xs k) ∧ L' = C :: F) := by
  obtain ⟨pu, cu, hu⟩ := hs.slice
  unfold yO
  refine qh (E0 := [(0, _), (1, _)]) (N := 19) Tryz.func117 rfl rfl rfl rfl ?_
  refine qP <| qG (wq rfl) ?_
  rintro t3 _ ⟨b3, rfl, rfl⟩
  refine qD rfl <| qF <| qO <| qP <| qB rfl <| q9 (wD (by rw [← hu]; rfl)) ?_
  refine qB rfl <| qF <| qg <| wV (Γ := {pΓ : (Nat) // (fun (i : Nat) => i ≤ xs.length ∧ k ∉ xs.take i) pΓ}) (fun g => (fun (i : Nat) => [(0, u), (3, .pointer (some ⟨b3, 0, none⟩)), (7, .int .i64 xs.length), (8, .int .i64 i)]) g.1) (fun g => (fun (i : Nat) => [(b3, .cells [.int .i64 k.1, .int .i64 k.2].toArray 100 (0, 0))] :: C :: F) g.1) (fun g => (fun (i : Nat) => xs.length - i) g.1) ⟨0, by dsimp only; exact ⟨by omega, by simp⟩⟩ (qX _) ?_
  rintro ⟨i, hloop⟩
  replace hloop : i ≤ xs.length ∧ k ∉ xs.take i := hloop
  obtain ⟨hi, hn⟩ := hloop
  show Tr _ _ _ ([(0, u), (3, .pointer (some ⟨b3, 0, none⟩)), (7, .int .i64 xs.length), (8, .int .i64 i)]) ([(b3, .cells [.int .i64 k.1, .int .i64 k.2].toArray 100 (0, 0))] :: C :: F) _ _
  refine qP <| q9 (wL rfl rfl) <| qF <| qO <| qL rfl (fun hc2 => ?_) (fun hc2 => ?_)
  ·
   refine qZ <| qI <| qO <| qg <| qP <| qB rfl <| qD rfl <| qF <| qO ?_
   obtain ⟨q, hq⟩ : ∃ q, xs[i]? = some q := ⟨_, List.getElem?_eq_getElem (by omega)⟩
   rcases hs with ⟨-, h0, -⟩ | ⟨b, cap, spare, rfl, hcs, rfl, hcap, hnc⟩
   · omega
   refine wQ w8 <| wE [(11, .pure _), (12, .pure _), (13, .pure _), (14, .pure _), (15, .pure _)] (by kernel_rfl) rfl rfl rfl wd (qC rfl (fun X => wZ rfl) <| qC rfl (fun X => qM rfl) <| qC rfl (fun X => qM rfl) <| qC rfl (fun X => qw (j := i) (off := i * 2) rfl rfl rfl (by omega) (by simp)) <| qC rfl (fun X => zC (j := i) y4 rfl hq rfl) <| ParH.nil rfl) ?_
   dsimp only [zQ, List.drop, List.length]
   refine qm (by kernel_rfl) (Z6 rfl rfl) ?_
   refine wI <| qI <| qL rfl (fun hc4 => ?_) (fun hc4 => ?_)
   ·
    refine qP <| qB rfl <| qD rfl <| qF <| qz <| wN <| w7 <| kc <| wN <| w7 <| wF ([(b, .cells (xs.flatMap zP ++ spare).toArray 100 (0, 0))] :: F) (.inl rfl) rfl (qu rfl) <| ⟨?_, rfl⟩
    have e := XG.1 hc4
    obtain ⟨hlt, he⟩ := List.getElem?_eq_some_iff.1 hq
    have h1 : xs.findIdx (fun q => decide (k = q)) = i := by
      rw [List.findIdx_eq hlt]
      refine ⟨by rw [he]; simpa using e, fun j hj => ?_⟩
      have h2 : k ≠ xs[j]'(by omega) := fun h => hn (List.mem_iff_getElem.2 ⟨j, by simp; omega, by simp [h]⟩)
      simpa using h2
    unfold MW
    rw [if_pos (e ▸ List.mem_of_getElem? hq), h1]
   ·
    refine qZ <| qf <| qI <| qK <| q9 (w9 rfl rfl (by omega)) <| qB rfl <| qT <| w5 ⟨i + 1, ?_⟩ ?_ ?_
    ·
     try dsimp only
     refine ⟨by omega, ?_⟩
     rw [List.take_add_one, hq, List.mem_append]
     rintro (h | h)
     · exact hn h
     · exact hc4 (XG.2 (by simpa using h))
    · (try dsimp only); omega
    · (try dsimp only); exact qX _
  ·
   refine wb <| qr <| qt <| qj <| qI <| qP <| qD rfl <| qF <| qz <| wF (C :: F) (.inl rfl) rfl (qu rfl) ?_
   rw [List.take_of_length_le (by omega)] at hn
   exact ⟨by unfold MW; rw [if_neg hn], rfl⟩
theorem containsP_ok (u : Value) (C : qV) (xs : List (Int × Int)) (k : Int × Int) (hs : SlC 100 2 u xs.length (xs.flatMap zP) C) (hl : xs.length ≤ 1000000) :
    FnT Tryz.prog w0 89 #[u, yO k] (C :: F) (fun v L' => v = .bool (decide (k ∈ xs)) ∧ L' = C :: F) := by
  unfold yO
  refine qh (E0 := [(0, _), (1, _)]) (N := 9) Tryz.func89 rfl rfl rfl rfl ?_
  refine qP <| qG (wq rfl) ?_
  rintro t3 _ ⟨b3, rfl, rfl⟩
  refine qD rfl <| qo <| qB rfl <| q9 (wZ rfl) <| q9 (wJ rfl (zS (C) (indexP_ok u C xs k hs hl))) <| q9 (j2 rfl rfl) <| qD rfl <| qF <| qz <| wF (C :: F) (.inl rfl) rfl (qu rfl) ?_
  exact ⟨by congr 1; unfold MW; split <;> simp [*], rfl⟩
def Wm (n : NS) (k : Int × Int) (a : Int) : Prop := a ≠ 0 ∧ atN n k = a ∧ k ∉ yE n
noncomputable instance (n : NS) (k : Int × Int) (a : Int) : Decidable (Wm n k a) := by unfold Wm; infer_instance
theorem live_ok (H : jJ w0) (HP : xo) (p : Nat) (n : NS) (Cn G : qV) (hn : NodeC p n Cn) (hg : kn G) (hok : NOk n) (k : Int × Int) (a : Int) :
    FnT Tryz.prog w0 56 #[.pointer (some ⟨p, 0, none⟩), .agg (Qg n.num n.ver k).toArray, .int .i64 a] (Cn :: G :: F) (fun v L' => v = .bool (decide (Wm n k a)) ∧ L' = Cn :: G :: F) := by
  obtain ⟨ma, md, ms, oa, od, os, u, C, hM, hCn⟩ := hn.eq
  unfold zI at hCn
  obtain ⟨l, hl⟩ : ∃ l, yE n = l := ⟨_, rfl⟩
  have hpl := ZY n
  rw [hl] at hpl
  refine qh (E0 := [(0, _), (1, _), (2, _)]) (N := 39) Tryz.func56 rfl rfl rfl rfl ?_
  refine qP <| qG (wq rfl) ?_
  rintro t4 _ ⟨b4, rfl, rfl⟩
  refine qD rfl <| qo <| q9 (qA rfl) <| q9 (qH rfl rfl) <| q9 (qA rfl) <| q9 (qH rfl rfl) <| q9 (wa rfl) <| qG (qn) ?_
  rintro t7 _ ⟨b7, rfl, rfl⟩
  refine qS (wj rfl rfl rfl rfl) <| qF <| qO <| wQ w8 <| qm (by kernel_rfl) (qM rfl) ?_
  refine qm (by kernel_rfl) (wz rfl rfl) ?_
  refine qm (by kernel_rfl) (qM rfl) ?_
  refine zi (s := 15) rfl (fun hg2_2 => ?_) (fun hg2_2 => ?_)
  ·
   refine wE [(16, .pure _), (17, .pure _), (18, .pure _), (19, .pure _)] (by kernel_rfl) rfl rfl rfl wd (wH rfl rfl rfl (fun X => wZ rfl) <| wH rfl rfl rfl (fun X => qM rfl) <| wH rfl rfl rfl (fun X => wZ rfl) <| wH rfl rfl rfl (fun X => wJ rfl (zS (Cn) (Wr p n Cn (Je hn) k))) <| ParH.nil rfl) ?_
   dsimp only [zQ, List.drop, List.length]
   refine zm (by kernel_rfl) rfl rfl (Z6 rfl rfl) ?_
   refine qm (by kernel_rfl) (qk rfl rfl) ?_
   refine qm (by kernel_rfl) (qM rfl) ?_
   refine ZF (L' := [(b7, .cells [.int .i64 k.1, .int .i64 k.2].toArray 100 (0, 0))] :: [(b4, .cells (Qg n.num n.ver k).toArray 62 (0, 0))] :: [(p, .cells [.int .u32 n.num, .int .u32 n.ver, .int .i64 n.kind, .int .i64 n.size, .int .u32 n.time, .map (some ma), .map (some md), .map (some ms), u].toArray 90 (0, 0))] :: [(ma, oa)] :: [(md, od)] :: [(ms, os)] :: C :: G :: F) (we (by rw [hCn]; simp)) ?_
   refine zi (s := 22) rfl (fun hg2_9 => ?_) (fun hg2_9 => ?_)
   ·
    refine wE [(23, .pure _), (24, .pure _), (25, .pure _), (26, .pure _), (27, .pure _), (28, .pure _), (29, .pure _)] (by kernel_rfl) rfl rfl rfl wd (wH rfl rfl rfl (fun X => qM rfl) <| wH rfl rfl rfl (fun X => qQ rfl) <| wH rfl rfl rfl (fun X => qA rfl) <| wH rfl rfl rfl (fun X => qH rfl rfl) <| wH rfl rfl rfl (fun X => wZ rfl) <| wH rfl rfl rfl (fun X => yQ (z := 0) (q := k) rfl rfl hM.a) <| wH rfl rfl rfl (fun X => qM rfl) <| ParH.nil rfl) ?_
    dsimp only [zQ, List.drop, List.length]
    refine ZF (L' := [(b7, .cells [.int .i64 k.1, .int .i64 k.2].toArray 100 (0, 0))] :: [(b4, .cells (Qg n.num n.ver k).toArray 62 (0, 0))] :: Cn :: G :: F) (we (by rw [hCn]; simp)) ?_
    refine zm (by kernel_rfl) rfl rfl (wl rfl rfl) ?_
    refine qm (by kernel_rfl) (qk rfl rfl) ?_
    refine qm (by kernel_rfl) (qM rfl) ?_
    refine zi (s := 32) rfl (fun hg2_19 => ?_) (fun hg2_19 => ?_)
    ·
     refine wE [(33, .pure _), (34, .act ([]) (fun v C => SlC 100 2 v (yE n).length ((yE n).flatMap zP) C)), (35, .pure _)] (by kernel_rfl) rfl rfl rfl (jT [[]] rfl) (wH rfl rfl rfl (fun X => qM rfl) <| ZG rfl rfl rfl (fun X => k8 (qx rfl (VN Cn G (xZ H HP p n Cn G hn hg hok))) (fun _ _ h => h) kP) <| wH rfl rfl rfl (fun X => wZ rfl) <| ParH.nil rfl) ?_
     rintro t34 Cp hs
     dsimp only [zQ, List.drop, List.length]
     refine zm (by kernel_rfl) rfl rfl (wJ rfl (zS (Cp) (containsP_ok t34 Cp (yE n) k hs (by rw [hl]; omega)))) ?_
     refine zm (by kernel_rfl) rfl rfl (kN rfl) ?_
     refine qm (by kernel_rfl) (qk rfl rfl) ?_
     refine qm (by kernel_rfl) (z8 rfl) ?_
     refine wI <| qI <| qz <| wF (Cn :: G :: F) (.inl rfl) rfl (qu rfl) <| ⟨?_, rfl⟩
     congr 1
     unfold Wm atN
     first | (simp [*]; done) | (symm; simp [*]; done) | skip
    ·
     refine wE [(33, .pure undef), (34, .pure undef), (35, .pure undef)] (by kernel_rfl) rfl rfl rfl wd (zq rfl rfl rfl rfl <| zq rfl rfl rfl rfl <| zq rfl rfl rfl rfl <| ParH.nil rfl) ?_
     dsimp only [zQ, List.drop, List.length]
     refine jY (by kernel_rfl) rfl rfl rfl ?_
     refine jY (by kernel_rfl) rfl rfl rfl ?_
     refine qm (by kernel_rfl) (qU rfl rfl) ?_
     refine qm (by kernel_rfl) (z8 rfl) ?_
     refine wI <| qI <| qz <| wF (Cn :: G :: F) (.inl rfl) rfl (qu rfl) <| ⟨?_, rfl⟩
     congr 1
     unfold Wm atN
     first | (simp [*]; done) | (symm; simp [*]; done) | skip
   · exact absurd rfl hg2_9
  ·
   refine wE [(16, .pure undef), (17, .pure undef), (18, .pure undef), (19, .pure undef)] (by kernel_rfl) rfl rfl rfl wd (zq rfl rfl rfl rfl <| zq rfl rfl rfl rfl <| zq rfl rfl rfl rfl <| zq rfl rfl rfl rfl <| ParH.nil rfl) ?_
   dsimp only [zQ, List.drop, List.length]
   refine jY (by kernel_rfl) rfl rfl rfl ?_
   refine qm (by kernel_rfl) (qU rfl rfl) ?_
   refine qm (by kernel_rfl) (qM rfl) ?_
   refine ZF (L' := [(b7, .cells [.int .i64 k.1, .int .i64 k.2].toArray 100 (0, 0))] :: [(b4, .cells (Qg n.num n.ver k).toArray 62 (0, 0))] :: [(p, .cells [.int .u32 n.num, .int .u32 n.ver, .int .i64 n.kind, .int .i64 n.size, .int .u32 n.time, .map (some ma), .map (some md), .map (some ms), u].toArray 90 (0, 0))] :: [(ma, oa)] :: [(md, od)] :: [(ms, os)] :: C :: G :: F) (we (by rw [hCn]; simp)) ?_
   refine wE [(23, .pure undef), (24, .pure undef), (25, .pure undef), (26, .pure undef), (27, .pure undef), (28, .pure undef), (29, .pure undef)] (by kernel_rfl) rfl rfl rfl wd (zq rfl rfl rfl rfl <| zq rfl rfl rfl rfl <| zq rfl rfl rfl rfl <| zq rfl rfl rfl rfl <| zq rfl rfl rfl rfl <| zq rfl rfl rfl rfl <| zq rfl rfl rfl rfl <| ParH.nil rfl) ?_
   dsimp only [zQ, List.drop, List.length]
   refine ZF (L' := [(b7, .cells [.int .i64 k.1, .int .i64 k.2].toArray 100 (0, 0))] :: [(b4, .cells (Qg n.num n.ver k).toArray 62 (0, 0))] :: Cn :: G :: F) (we (by rw [hCn]; simp)) ?_
   refine jY (by kernel_rfl) rfl rfl rfl ?_
   refine qm (by kernel_rfl) (qU rfl rfl) ?_
   refine qm (by kernel_rfl) (qM rfl) ?_
   refine wE [(33, .pure undef), (34, .pure undef), (35, .pure undef)] (by kernel_rfl) rfl rfl rfl wd (zq rfl rfl rfl rfl <| zq rfl rfl rfl rfl <| zq rfl rfl rfl rfl <| ParH.nil rfl) ?_
   dsimp only [zQ, List.drop, List.length]
   refine jY (by kernel_rfl) rfl rfl rfl ?_
   refine jY (by kernel_rfl) rfl rfl rfl ?_
   refine qm (by kernel_rfl) (qU rfl rfl) ?_
   refine qm (by kernel_rfl) (z8 rfl) ?_
   refine wI <| qI <| qz <| wF (Cn :: G :: F) (.inl rfl) rfl (qu rfl) <| ⟨?_, rfl⟩
   congr 1
   unfold Wm atN
   first | (simp [*]; done) | (symm; simp [*]; done) | skip
noncomputable def jV (n : NS) (k : Int × Int) (a : Int) (g : Int → Option Sec) : (Bool × Int) × NS :=
  if Wm n k a then (if k.1 = 1 then (match g a with | none => ((false, 20), n) | some s => ((true, 0), zy n k.2 (some s))) else ((true, 0), setStale n k)) else ((false, 0), n)
theorem Vq (H : jJ w0) (HP : xo) (p : Nat) (n : NS) (Cn D G : qV) (hn : NodeC p n Cn) (hg : kn G) (hok : NOk n) (k : Int × Int) (a : Int) (rv : Value) (g : Int → Option Sec) (hr : KC rv D g) :
    FnT Tryz.prog w0 19 #[.pointer (some ⟨p, 0, none⟩), .agg (Qg n.num n.ver k).toArray, .int .i64 a, rv] (Cn :: D :: G :: F)
      (fun v L' => ∃ Cn', v = .tuple #[.bool (jV n k a g).1.1, .int .i64 (jV n k a g).1.2] ∧ NodeC p (jV n k a g).2 Cn' ∧ L' = Cn' :: D :: G :: F) := by
  obtain ⟨ma, md, ms, oa, od, os, u, C, hM, hCn⟩ := hn.eq
  unfold zI at hCn
  refine qh (E0 := [(0, _), (1, _), (2, _), (3, _)]) (N := 45) Tryz.func19 rfl rfl rfl rfl ?_
  refine qP <| qG (wq rfl) ?_
  rintro t5 _ ⟨b5, rfl, rfl⟩
  refine qD rfl <| qD rfl <| qF <| qO <| qP <| qB rfl <| q9 (wZ rfl) <| qB rfl <| q9 (wJ rfl (yj (Cn) (G) (live_ok H HP p n Cn G hn hg hok k a))) <| q9 (kN rfl) <| qF <| y3 rfl (fun hc1 => ?_) (fun hc1 => ?_)
  ·
   have hlv : ¬ Wm n k a := by simpa using hc1
   have hT : jV n k a g = ((false, 0), n) := by unfold jV; rw [if_neg hlv]
   refine qP <| qD rfl <| qD rfl <| qF <| qz <| w7 <| wY (Cn :: D :: G :: F) (.inl rfl) rfl (qu rfl) (qu rfl) ?_
   exact ⟨Cn, by rw [hT], by rw [hT]; exact hn, rfl⟩
  ·
   have hlv : Wm n k a := by simpa using hc1
   refine qZ <| qI <| qO <| qP <| q9 (qA rfl) <| q9 (qH rfl rfl) <| q9 (wl rfl rfl) <| qF <| qL rfl (fun hc3 => ?_) (fun hc3 => ?_)
   ·
    refine qP <| qB rfl <| qB rfl <| q9 (kX rfl rfl (YL D (hr w0 _ a))) <| qB rfl <| q9 (qi rfl rfl) <| q9 (qi rfl rfl) <| qG (qn) ?_
    rintro t10 _ ⟨b10, rfl, rfl⟩
    refine qS (qq rfl rfl (by simp) (by simp) (wt _)) ?_
    refine qD rfl <| qF <| qO <| qP <| qB rfl <| q9 (wz rfl rfl) <| qF <| qL rfl (fun hc5 => ?_) (fun hc5 => ?_)
    ·
     have hbk : g a = none := by
       cases h : g a with
       | none => rfl
       | some s => rw [h] at hc5; exact absurd rfl hc5
     refine qP <| qB rfl <| qD rfl <| qD rfl <| qF <| qz <| w7 <| w7 <| wY (Cn :: D :: G :: F) (.inl rfl) rfl (qu rfl) (qu rfl) ?_
     have hT : jV n k a g = ((false, 20), n) := by unfold jV; rw [if_pos hlv, if_pos hc3, hbk]
     exact ⟨Cn, by rw [hT, hbk]; rfl, by rw [hT]; exact hn, rfl⟩
    ·
     obtain ⟨s, hbk⟩ : ∃ s, g a = some s := by
       cases h : g a with
       | none => rw [h] at hc5; exact absurd (by decide) hc5
       | some s => exact ⟨s, rfl⟩
     rw [hbk]
     refine qZ <| qI <| qO <| yx (L' := [(b10, .cells (ww s).toArray 55 (0, 0))] :: [(b5, .cells (Qg n.num n.ver k).toArray 62 (0, 0))] :: [(p, .cells [.int .u32 n.num, .int .u32 n.ver, .int .i64 n.kind, .int .i64 n.size, .int .u32 n.time, .map (some ma), .map (some md), .map (some ms), u].toArray 90 (0, 0))] :: [(ma, oa)] :: [(md, od)] :: [(ms, os)] :: C :: D :: G :: F) (we (by rw [hCn]; simp)) ?_
     refine wQ w8 <| wE [(29, .pure _), (30, .pure _), (31, .pure _), (32, .pure _), (33, .pure _), (34, .pure _), (35, .pure _)] (by kernel_rfl) rfl rfl rfl wd (qC rfl (fun X => qM rfl) <| qC rfl (fun X => qQ rfl) <| qC rfl (fun X => qA rfl) <| qC rfl (fun X => qH rfl rfl) <| qC rfl (fun X => qA rfl) <| qC rfl (fun X => qH rfl rfl) <| qC rfl (fun X => wS rfl (by first | exact zk _ | simp)) <| ParH.nil rfl) ?_
     dsimp only [zQ, List.drop, List.length]
     refine zt (by kernel_rfl) (zR (q := k.2) (v := s) rfl rfl rfl hM.d) ?_
     rintro _ _ ⟨od', hod', rfl⟩
     refine wI <| qI <| qP <| qD rfl <| qD rfl <| qT <| zM (qX ([(p, .cells [.int .u32 n.num, .int .u32 n.ver, .int .i64 n.kind, .int .i64 n.size, .int .u32 n.time, .map (some ma), .map (some md), .map (some ms), u].toArray 90 (0, 0))] :: [(ma, oa)] :: [(md, od')] :: [(ms, os)] :: C :: D :: G :: F)) <| zM (we (L' := ((p, .cells (zI n ma md ms u).toArray 90 (0, 0)) :: (ma, oa) :: (md, od') :: (ms, os) :: C) :: D :: G :: F) (by simp [zI])) ?_
     refine qI <| qz <| w7 <| W5 (.inl rfl) rfl (qu rfl) (qu rfl) ?_
     have hT : jV n k a g = ((true, 0), zy n k.2 (some s)) := by unfold jV; rw [if_pos hlv, if_pos hc3, hbk]
     exact ⟨_, by rw [hT], by rw [hT]; exact ⟨ma, md, ms, oa, od', os, u, C, rfl, hM.a, hod', hM.s, hM.g⟩, rfl⟩
   ·
    refine qZ <| qI <| qO <| yx (L' := [(b5, .cells (Qg n.num n.ver k).toArray 62 (0, 0))] :: [(p, .cells [.int .u32 n.num, .int .u32 n.ver, .int .i64 n.kind, .int .i64 n.size, .int .u32 n.time, .map (some ma), .map (some md), .map (some ms), u].toArray 90 (0, 0))] :: [(ma, oa)] :: [(md, od)] :: [(ms, os)] :: C :: D :: G :: F) (we (by rw [hCn]; simp)) ?_
    refine wQ w8 <| wE [(36, .pure _), (37, .pure _), (38, .pure _), (39, .pure _), (40, .pure _), (41, .pure _), (42, .pure _), (43, .pure _), (44, .pure _)] (by kernel_rfl) rfl rfl rfl wd (qC rfl (fun X => qM rfl) <| qC rfl (fun X => qQ rfl) <| qC rfl (fun X => qA rfl) <| qC rfl (fun X => qH rfl rfl) <| qC rfl (fun X => qA rfl) <| qC rfl (fun X => qH rfl rfl) <| qC rfl (fun X => qA rfl) <| qC rfl (fun X => qH rfl rfl) <| qC rfl (fun X => wa rfl) <| ParH.nil rfl) ?_
    dsimp only [zQ, List.drop, List.length]
    refine zt (by kernel_rfl) (zR (q := k) (v := (1 : Int)) rfl rfl rfl hM.s) ?_
    rintro _ _ ⟨os', hos', rfl⟩
    refine wI <| qI <| qP <| qD rfl <| qD rfl <| qT <| zM (qX ([(p, .cells [.int .u32 n.num, .int .u32 n.ver, .int .i64 n.kind, .int .i64 n.size, .int .u32 n.time, .map (some ma), .map (some md), .map (some ms), u].toArray 90 (0, 0))] :: [(ma, oa)] :: [(md, od)] :: [(ms, os')] :: C :: D :: G :: F)) <| zM (we (L' := ((p, .cells (zI n ma md ms u).toArray 90 (0, 0)) :: (ma, oa) :: (md, od) :: (ms, os') :: C) :: D :: G :: F) (by simp [zI])) ?_
    refine qI <| qz <| W5 (.inl rfl) rfl (qu rfl) (qu rfl) ?_
    have hT : jV n k a g = ((true, 0), setStale n k) := by unfold jV; rw [if_pos hlv, if_neg hc3]
    exact ⟨_, by rw [hT], by rw [hT]; exact ⟨ma, md, ms, oa, od, os', u, C, rfl, hM.a, hM.d, hos', hM.g⟩, rfl⟩
def jR (n : NS) (t : Int) : NS := if n.time ≠ t then { setStale n (2, 0) with time := t } else n
theorem setTime_ok (p : Nat) (n : NS) (Cn G : qV) (hn : NodeC p n Cn) (hg : kn G) (t : Int) :
    FnT Tryz.prog w0 35 #[.pointer (some ⟨p, 0, none⟩), .int .u32 t] (Cn :: G :: F) (fun v L' => v = .tuple #[] ∧ ∃ Cn', NodeC p (jR n t) Cn' ∧ L' = Cn' :: G :: F) := by
  refine nodeg_change hn hg ?_
  intro ma md ms oa od os u C e0 f0 e1 f1 e2 f2 hM
  unfold kM zI QG
  refine qh (E0 := [(0, _), (1, _)]) (N := 19) Tryz.func35 rfl rfl rfl rfl ?_
  refine qP <| qB rfl <| q9 (qQ rfl) <| q9 (qA rfl) <| q9 (qH rfl rfl) <| qB rfl <| q9 (wz rfl rfl) <| qF <| qL rfl (fun hc0 => ?_) (fun hc0 => ?_)
  ·
   refine qP <| qB rfl <| qB rfl <| q9 (qQ rfl) <| q9 (qA rfl) <| qS (ws rfl rfl rfl) <| qF <| wQ w8 <| wE [(14, .pure _), (15, .pure _), (16, .pure _), (17, .pure _), (18, .pure _)] (by kernel_rfl) rfl rfl rfl wd (qC rfl (fun X => qM rfl) <| qC rfl (fun X => qQ rfl) <| qC rfl (fun X => qA rfl) <| qC rfl (fun X => qH rfl rfl) <| qC rfl (fun X => wZ rfl) <| ParH.nil rfl) ?_
   dsimp only [zQ, List.drop, List.length]
   refine zt (by kernel_rfl) (zR (q := (2, 0)) (v := (1 : Int)) rfl rfl rfl hM.s) ?_
   rintro _ _ ⟨os', hos', rfl⟩
   refine wI <| xk (.inr rfl) rfl  ?_
   exact ⟨rfl, ma, md, ms, oa, od, os', u, C, by unfold jR; rw [if_pos hc0]; exact ⟨hM.a, hM.d, hos', hM.g⟩, by unfold jR; rw [if_pos hc0]; rfl⟩
  ·
   refine qZ <| xk (.inr rfl) rfl  ?_
   exact ⟨rfl, ma, md, ms, oa, od, os, u, C, by unfold jR; rw [if_neg hc0]; exact hM, by unfold jR; rw [if_neg hc0]; rfl⟩
def Zv (num ver kind : Int) : NS := ⟨num, ver, kind, 0, 0, fun _ => none, fun _ => none, upd (fun _ => none) (2, 0) (some 1), []⟩
theorem MJ (G : qV) (hg : kn G) (num ver kind : Int) :
    FnT Tryz.prog w0 25 #[.int .u32 num, .int .u32 ver, .int .i64 kind] (G :: F) (fun v L' => ∃ p Cn, v = .pointer (some ⟨p, 0, none⟩) ∧ NodeC p (Zv num ver kind) Cn ∧ L' = Cn :: G :: F) := by
  obtain ⟨e0, f0, e1, f1, e2, f2, hG⟩ := id hg
  refine qh (E0 := [(0, _), (1, _), (2, _)]) (N := 17) Tryz.func25 rfl rfl rfl rfl ?_
  refine qP <| qD rfl <| qo <| qB rfl <| qB rfl <| qB rfl <| qG (ki) ?_
  rintro t10 _ ⟨b10, rfl, rfl⟩
  refine qG (ki) ?_
  rintro t11 _ ⟨b11, rfl, rfl⟩
  refine qG (ki) ?_
  rintro t12 _ ⟨b12, rfl, rfl⟩
  refine q9 (kC (b := 0) (off := 0) (c := [Value.int .i64 2, Value.int .i64 0].toArray) (e := e0) (fr := f0) (r := [.int .i64 2, .int .i64 0]) rfl (by rw [hG]; simp) rfl (by decide)) ?_
  refine y5 (xP (enc := yO) (val := Value.int .i64) (r := b12) (q := (2, 0)) (v := (1 : Int)) rfl rfl rfl (kk _ _)) ?_
  rintro _ _ ⟨o1, ho1, rfl⟩
  refine qB rfl <| q9 (wa rfl) <| qG (wq rfl) ?_
  rintro t16 _ ⟨b16, rfl, rfl⟩
  refine qD rfl <| qT <| zM (L' := ((b16, .cells (zI (Zv num ver kind) b10 b11 b12 (.slice none 0 0)).toArray 90 (0, 0)) :: (b10, .map #[] 0) :: (b11, .map #[] 0) :: (b12, o1) :: []) :: G :: F) (by simp only [zI, Zv]; exact (yV (by intro f; simp only [List.flatten_cons, List.flatten_nil, List.append_nil, List.countP_append, List.countP_cons, List.countP_nil]; omega))) ?_
  refine qI <| qz <| zn (.inl rfl) rfl (qu rfl) ?_
  exact ⟨_, _, rfl, ⟨b10, b11, b12, _, _, o1, _, [], rfl, kk _ _, kk _ _, ho1, SlC.nil _ _⟩, rfl⟩
theorem sclone_ok (u : Value) (C : qV) (xs : List Int) (hs : SlC 3 1 u xs.length (iV xs) C) (hl : xs.length ≤ 1000000) :
    FnT Tryz.prog w0 55 #[u] (C :: F) (fun v L' => ∃ C', SlC 3 1 v xs.length (iV xs) C' ∧ L' = C' :: C :: F) := by
  rcases id hs with ⟨rfl, h0, h1, rfl⟩ | ⟨b, cap, spare, rfl, hcs, rfl, hcap, hnc⟩
  · refine qh (E0 := [(0, _)]) (N := 8) Tryz.func55 rfl rfl rfl rfl ?_
    refine qP <| qD rfl <| qF <| qO <| qP <| qB rfl <| q9 (Wi rfl rfl Tryz.underlying39) <| qF <| zL rfl <| qP <| qD rfl <| qF <| qz <| w7 <| wF ([] :: [] :: F) (.inl rfl) rfl (qu rfl) ?_
    exact ⟨[], hs, rfl⟩
  · refine qh (E0 := [(0, _)]) (N := 8) Tryz.func55 rfl rfl rfl rfl ?_
    refine qP <| qD rfl <| qF <| qO <| qP <| qB rfl <| q9 (Wi rfl rfl Tryz.underlying39) <| qF <| wU rfl <| qZ <| qI <| qP <| qG (QC) ?_
    rintro t5 _ ⟨b5, rfl, rfl⟩
    refine qB rfl <| qG (wg (m := xs.length) (sz := 1) rfl rfl (SlC.fresh (e := 3) (sz := 1) (b := b5) (n := 0) (cs := []) rfl) (wi (ys := iV xs) inferInstance (by simp) (by simp)) (xH _) Tryz.underlying39 rfl rfl (by omega)) ?_
    rintro t7 _ ⟨C', hs', rfl⟩
    refine qD rfl <| qF <| qz <| zn (.inl rfl) rfl (qu rfl) ?_
    exact ⟨C', by simpa using hs', rfl⟩
theorem clone_ok (p : Nat) (n : NS) (Cn : qV) (hn : NodeC p n Cn) (hgl : n.gone.length ≤ 1000000) :
    FnT Tryz.prog w0 18 #[.pointer (some ⟨p, 0, none⟩)] (Cn :: F) (fun v L' => ∃ q Cq, v = .pointer (some ⟨q, 0, none⟩) ∧ NodeC q n Cq ∧ L' = Cq :: Cn :: F) := by
  obtain ⟨ma, md, ms, oa, od, os, u, C, hM, hCn⟩ := hn.eq
  unfold zI at hCn
  obtain ⟨pu, cu, rfl⟩ := hM.g.slice
  refine FnT.pre (L' := [(p, .cells [.int .u32 n.num, .int .u32 n.ver, .int .i64 n.kind, .int .i64 n.size, .int .u32 n.time, .map (some ma), .map (some md), .map (some ms), .slice pu n.gone.length cu].toArray 90 (0, 0))] :: [(ma, oa)] :: [(md, od)] :: [(ms, os)] :: C :: F) ?_ (we (by rw [hCn]; simp))
  refine qh (E0 := [(0, _)]) (N := 31) Tryz.func18 rfl rfl rfl rfl ?_
  refine qP <| qD rfl <| qo <| qB rfl <| q9 (qQ rfl) <| q9 (wZ rfl) <| qG (qn) ?_
  rintro t3 _ ⟨b3, rfl, rfl⟩
  refine qS (wj rfl rfl rfl rfl) <| qF <| qO <| wQ w8 <| wE [(7, .pure _), (8, .pure _), (9, .pure _), (10, .pure _), (11, .act ([]) (fun v C => ∃ q, v = .map (some q) ∧ C = [(q, oa)])), (12, .pure _), (13, .pure _), (14, .pure _), (15, .pure _), (16, .act ([]) (fun v C => ∃ q, v = .map (some q) ∧ C = [(q, od)])), (17, .pure _), (18, .pure _), (19, .pure _), (20, .pure _), (21, .act ([]) (fun v C => ∃ q, v = .map (some q) ∧ C = [(q, os)])), (22, .pure _), (23, .pure _), (24, .pure _), (25, .pure _)] (by kernel_rfl) rfl rfl rfl (jT [[], [], []] rfl) (qC rfl (fun X => qM rfl) <| qC rfl (fun X => qQ rfl) <| qC rfl (fun X => qA rfl) <| qC rfl (fun X => qH rfl rfl) <| jr rfl (fun X => k8 (qx rfl (W6 [(ma, oa)] ((ZB ma oa n.at_ hM.a).mono fun v L' ⟨q, h1, h2⟩ => ⟨[(q, oa)], ⟨q, h1, rfl⟩, h2⟩))) (fun _ _ h => h) kP) <| qC rfl (fun X => qM rfl) <| qC rfl (fun X => qQ rfl) <| qC rfl (fun X => qA rfl) <| qC rfl (fun X => qH rfl rfl) <| jr rfl (fun X => k8 (qx rfl (W6 [(md, od)] ((cloneD_ok md od n.data hM.d).mono fun v L' ⟨q, h1, h2⟩ => ⟨[(q, od)], ⟨q, h1, rfl⟩, h2⟩))) (fun _ _ h => h) kP) <| qC rfl (fun X => qM rfl) <| qC rfl (fun X => qQ rfl) <| qC rfl (fun X => qA rfl) <| qC rfl (fun X => qH rfl rfl) <| jr rfl (fun X => k8 (qx rfl (W6 [(ms, os)] ((ZB ms os n.stale hM.s).mono fun v L' ⟨q, h1, h2⟩ => ⟨[(q, os)], ⟨q, h1, rfl⟩, h2⟩))) (fun _ _ h => h) kP) <| qC rfl (fun X => qM rfl) <| qC rfl (fun X => qQ rfl) <| qC rfl (fun X => qA rfl) <| qC rfl (fun X => qH rfl rfl) <| ParH.nil rfl) ?_
  rintro t11 Cq ⟨qa, rfl, rfl⟩
  rintro t16 Cd ⟨qd, rfl, rfl⟩
  rintro t21 Cs ⟨qs, rfl, rfl⟩
  dsimp only [zQ, List.drop, List.length]
  refine wu (by kernel_rfl) (qx rfl (wc (C) (sclone_ok _ C n.gone hM.g hgl))) ?_
  rintro t26 _ ⟨Cu, hcu, rfl⟩
  obtain ⟨pq, cq, rfl⟩ := hcu.slice
  refine qm (by kernel_rfl) (qA rfl) ?_
  refine yU (by kernel_rfl) (ws rfl rfl rfl) ?_
  refine qm (by kernel_rfl) (qA rfl) ?_
  refine yU (by kernel_rfl) (ws rfl rfl rfl) ?_
  refine qm (by kernel_rfl) (qA rfl) ?_
  refine yU (by kernel_rfl) (ws rfl rfl rfl) ?_
  refine qm (by kernel_rfl) (qA rfl) ?_
  refine yU (by kernel_rfl) (ws rfl rfl rfl) ?_
  refine wI <| zM (L' := ((b3, .cells (zI n qa qd qs (.slice pq n.gone.length cq)).toArray 90 (0, 0)) :: (qa, oa) :: (qd, od) :: (qs, os) :: Cu) :: Cn :: F) (by rw [hCn]; simp only [zI]; exact (yV (by intro f; simp only [List.flatten_cons, List.flatten_nil, List.append_nil, List.countP_append, List.countP_cons, List.countP_nil]; omega))) ?_
  refine qI <| qP <| qD rfl <| qF <| qz <| zn (.inl rfl) rfl (qu rfl) ?_
  exact ⟨b3, _, rfl, ⟨qa, qd, qs, oa, od, os, _, Cu, rfl, hM.a, hM.d, hM.s, hcu⟩, rfl⟩
end
end Go.Proofs.YtjikpomndbkfgaaGreatDoor
