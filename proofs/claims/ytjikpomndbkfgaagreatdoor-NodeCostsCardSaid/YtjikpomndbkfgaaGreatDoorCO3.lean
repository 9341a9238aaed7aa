/- NodeCosts: for every input that the statement's row lets in the law answers true and its argument reads as before; conditions: none beyond the row's own (part 3; joined, pruned and shortened by a program of the prover's own: names of two letters stand for longer ones.) -/
import Derived.Test.YtjikpomndbkfgaaGreatDoorCO2
import Derived.Laws.Externs
import Derived.MapKept
set_option linter.all false
set_option linter.unusedVariables false
set_option linter.unusedSimpArgs false
set_option linter.unusedSectionVars false
namespace Go.Proofs.YtjikpomndbkfgaaGreatDoor
open Go Go.Sx Go.Nd
set_option maxRecDepth 10000
section
variable {w0 : World} {L F : Res}
def srt (xs : List Int) : List Int := xs.mergeSort (fun a b => decide (a ≤ b))
structure jL (w0 : World) : Prop where
  sort : ∀ (F : Res) (u : Value) (n : Nat) (xs : List Int) (C : qV), SlC 3 1 u n (iV xs) C → xs.length = n → n ≤ 1000000 →
    FnT Tryz.prog w0 51 #[u] (C :: F) (fun v L' => v = .tuple #[] ∧ ∃ C', SlC 3 1 u n (iV (srt xs)) C' ∧ L' = C' :: F)
  keys : ∀ (F : Res) (b md : Nat) (e : TypeId) (fr : Nat × Nat) (od : Obj) (f : Int → Option Sec), MapF (Value.int .i64) jE f od → (∀ k, f k ≠ none → 0 ≤ k ∧ k < 1064) →
    FnT Tryz.prog w0 49 #[.func (.func 90) [].toArray [.pointer (some ⟨b, 0, none⟩)].toArray] ([(b, .cells [Value.map (some md)].toArray e fr)] :: [(md, od)] :: F)
      (fun v L' => ∃ ks C, SlC 3 1 v ks.length (iV ks) C ∧ ks.Nodup ∧ (∀ k, k ∈ ks ↔ f k ≠ none) ∧ L' = C :: [(b, .cells [Value.map (some md)].toArray e fr)] :: [(md, od)] :: F)
theorem mapsKeys_ok (md : Nat) : FnT Tryz.prog w0 57 #[.map (some md)] F (fun v L' => ∃ b, v = .func (.func 90) [].toArray [.pointer (some ⟨b, 0, none⟩)].toArray ∧ L' = [(b, .cells [Value.map (some md)].toArray 42 (0, 0))] :: F) := by
  refine qi (E0 := [(0, _)]) (N := 4) Tryz.func57 rfl rfl rfl rfl ?_
  refine qO <| qG (wq rfl) ?_
  rintro t1 _ ⟨b1, rfl, rfl⟩
  refine qE rfl <| qm <| q9 (z6 rfl rfl) <| qE rfl <| qF <| qy <| zq (.inl rfl) rfl (qu rfl) ?_
  exact ⟨_, rfl, rfl⟩
structure NOk (n : NS) : Prop where
  data : ∀ k, n.data k ≠ none → 0 ≤ k ∧ k < 1064
  at1 : ∀ k, n.at_ k ≠ none → (k.1 = 1 ∧ 0 ≤ k.2 ∧ k.2 < 1064) ∨ k = (2, 0) ∨ k = (3, 0) ∨ k = (4, 0) ∨ (k.1 = 5 ∧ 0 ≤ k.2 ∧ k.2 < 32)
  at2 : ∀ k a, n.at_ k = some a → 1 ≤ a ∧ a ≤ 65535
  stale : ∀ k, n.stale k ≠ none → (k.1 = 1 ∧ 0 ≤ k.2 ∧ k.2 < 1064) ∨ k = (2, 0) ∨ k = (3, 0) ∨ k = (4, 0) ∨ (k.1 = 5 ∧ 0 ≤ k.2 ∧ k.2 < 32)
def jd (n : NS) : List Int := ((List.range 1064).map (fun i : Nat => (i : Int))).filter (fun i => decide (x8 n i))
theorem XI {K V : Type} [DecidableEq K] {al : List (K × V)} {vis : List Nat} {i : Nat} {p : K × V} (hn : (zJ al).Nodup) (hp : al[i]? = some p) (hi : i ∉ vis) : ¬ kc al vis p.1 := by
  rintro ⟨j, hj, v, hv⟩
  have h1 : (zJ al)[i]? = (zJ al)[j]? := by simp [zJ, hp, hv]
  have hlt : i < (zJ al).length := by have := (List.getElem?_eq_some_iff.1 hp).1; simpa [zJ] using this
  exact hi ((List.getElem?_inj hlt hn).1 h1 ▸ hj)
theorem xg (m : Nat) : ((List.range m).map (fun i : Nat => (i : Int))).Pairwise (· < ·) := by
  rw [List.pairwise_map]
  exact List.pairwise_lt_range.imp (fun h => by omega)
theorem srt_eq {xs ys : List Int} (hx : xs.Nodup) (hy : ys.Pairwise (· < ·)) (h : ∀ k, k ∈ xs ↔ k ∈ ys) : srt xs = ys := by
  have hyn : ys.Nodup := hy.imp (fun h => Int.ne_of_lt h)
  have hp : (srt xs).Perm ys := (List.mergeSort_perm xs _).trans ((List.perm_ext_iff_of_nodup hx hyn).2 h)
  have hs : (srt xs).Pairwise (fun a b => decide (a ≤ b) = true) := List.pairwise_mergeSort (fun a b c h1 h2 => by simp at *; omega) (fun a b => by simp; omega) xs
  exact List.Perm.eq_of_pairwise (fun a b _ _ h1 h2 => by simp at h1 h2; omega) hs (hy.imp (fun h => by simp; omega)) hp
theorem mem_idxN {n : NS} (h : NOk n) (k : Int) : k ∈ jd n ↔ x8 n k := by
  unfold jd
  rw [List.mem_filter, List.mem_map]
  simp only [List.mem_range, decide_eq_true_eq]
  constructor
  · exact fun h => h.2
  · intro hk
    refine ⟨?_, hk⟩
    have : 0 ≤ k ∧ k < 1064 := by
      rcases hk with hk | hk
      · exact h.data k (fun e => by rw [e] at hk; cases hk)
      · have := h.at1 (1, k) (fun e => by rw [e] at hk; exact hk rfl)
        simp at this; omega
    exact ⟨k.toNat, by omega, by omega⟩
theorem YW {xs : List Int} (h : xs.Nodup) (hr : ∀ k ∈ xs, 0 ≤ k ∧ k < 1064) : xs.length ≤ 1064 := by
  have := yR (l2 := (List.range 1064).map (fun i : Nat => (i : Int))) h (fun x hx => by
    have := hr x hx
    exact List.mem_map.2 ⟨x.toNat, List.mem_range.2 (by omega), by omega⟩)
  simpa using this
theorem jq {m n : Nat} {mo o : Obj} {vis : List Nat} {i : Nat} (h : IterOk m mo n (vis ++ [i]) o) : n - (vis ++ [i]).length < n - vis.length := by
  have h1 := yR (l2 := List.range n) h.nodup (fun x hx => List.mem_range.2 (h.lt x hx))
  simp at h1 ⊢; omega
theorem Ws (xs : List Int) : (srt xs).length = xs.length := List.length_mergeSort xs
section
variable {n : NS} {al : List ((Int × Int) × Int)} {oa : Obj} {out : List Int} {vis : List Nat} {i : Nat} {q : (Int × Int) × Int}
theorem VM (hok : NOk n) (hal : MapOk yN (Value.int .i64) al oa) (hag : ∀ k, yA al k = n.at_ k) {k : Int} (h : n.data k ≠ none ∨ kc al vis (1, k)) : 0 ≤ k ∧ k < 1064 := by
  rcases h with h | ⟨j, _, v, hv⟩
  · exact hok.data k h
  · have := hok.at1 (1, k) (by rw [← hag, x6 hal.nodup (List.mem_of_getElem? hv)]; simp)
    simp at this; omega
theorem ZZ (hq : al[i]? = some q) (hmem : ∀ k, k ∈ out ↔ n.data k ≠ none ∨ kc al vis (1, k)) (h : ¬ q.1.1 = 1 ∨ (n.data q.1.2).isSome = true) : ∀ k, k ∈ out ↔ n.data k ≠ none ∨ kc al (vis ++ [i]) (1, k) := fun k => by
  rw [hmem, k9 hq]
  constructor
  · rintro (h | h)
    · exact .inl h
    · exact .inr (.inl h)
  · rintro (h1 | h1 | h1)
    · exact .inl h1
    · exact .inr h1
    · rcases h with h | h
      · exact absurd (by rw [← h1]) h
      · refine .inl (fun e => ?_)
        rw [← h1, e] at h; cases h
theorem out_mem (hq : al[i]? = some q) (hmem : ∀ k, k ∈ out ↔ n.data k ≠ none ∨ kc al vis (1, k)) (h : n.data q.1.2 = none) (h1 : q.1.1 = 1) : ∀ k, k ∈ out ++ [q.1.2] ↔ n.data k ≠ none ∨ kc al (vis ++ [i]) (1, k) := fun k => by
  rw [List.mem_append, hmem, k9 hq, List.mem_singleton, or_assoc]
  have : (1, k) = q.1 ↔ k = q.1.2 := by
    constructor
    · intro e; rw [← e]
    · intro e; rw [e]; exact Prod.ext h1.symm rfl
  rw [this]
theorem out_push (hal : MapOk yN (Value.int .i64) al oa) (hq : al[i]? = some q) (hni : ¬ i ∈ vis) (hnd : out.Nodup) (hmem : ∀ k, k ∈ out ↔ n.data k ≠ none ∨ kc al vis (1, k)) (h : n.data q.1.2 = none) (h1 : q.1.1 = 1) : (out ++ [q.1.2]).Nodup := by
  rw [List.nodup_append]
  refine ⟨hnd, by simp, fun a ha b hb => ?_⟩
  obtain rfl := List.mem_singleton.1 hb
  rintro rfl
  rcases (hmem _).1 ha with h2 | h2
  · exact h2 h
  · refine XI hal.nodup hq hni ?_
    have : q.1 = (1, q.1.2) := Prod.ext h1 rfl
    rw [this]; exact h2
theorem idx_eq (hok : NOk n) (hal : MapOk yN (Value.int .i64) al oa) (hag : ∀ k, yA al k = n.at_ k) (hnd : out.Nodup) (hmem : ∀ k, k ∈ out ↔ n.data k ≠ none ∨ kc al vis (1, k)) (hf : ∀ k, kc al vis k ↔ ∃ v, yA al k = some v) : srt out = jd n := by
  refine srt_eq hnd ?_ (fun k => ?_)
  · exact (xg 1064).filter _
  · rw [hmem, mem_idxN hok, hf, hag]
    unfold x8
    constructor
    · rintro (h | ⟨v, hv⟩)
      · left; cases hd : n.data k with
        | none => exact absurd hd h
        | some s => rfl
      · right; rw [hv]; have := hok.at2 _ _ hv; simp; omega
    · rintro (h | h)
      · left; intro e; rw [e] at h; cases h
      · right; cases hv : n.at_ (1, k) with
        | none => rw [hv] at h; exact absurd rfl h
        | some v => exact ⟨v, rfl⟩
end
theorem WA (H : jL w0) (p : Nat) (n : NS) (Cn : qV) (hn : NodeC p n Cn) (hok : NOk n) :
    FnT Tryz.prog w0 22 #[.pointer (some ⟨p, 0, none⟩)] (Cn :: F) (fun v L' => ∃ C', SlC 3 1 v (jd n).length (iV (jd n)) C' ∧ L' = C' :: Cn :: F) := by
  obtain ⟨ma, md, ms, oa, od, os, u, C, hM, hCn⟩ := hn.eq
  unfold zO at hCn
  obtain ⟨al, hal, hag⟩ := hM.a
  refine FnT.pre (L' := [(p, .cells [.int .u32 n.num, .int .u32 n.ver, .int .i64 n.kind, .int .i64 n.size, .int .u32 n.time, .map (some ma), .map (some md), .map (some ms), u].toArray 90 (0, 0))] :: [(ma, oa)] :: [(md, od)] :: [(ms, os)] :: C :: F) ?_ (wZ (by rw [hCn]; simp))
  refine qi (E0 := [(0, _)]) (N := 47) Tryz.func22 rfl rfl rfl rfl ?_
  refine qO <| qE rfl <| qm <| qA rfl <| q9 (qQ rfl) <| q9 (qB rfl) <| q9 (qI rfl rfl) <| qG (w5 rfl (mapsKeys_ok md)) ?_
  rintro t11 _ ⟨bk, rfl, rfl⟩
  refine qG (w5 rfl (kG ([(bk, .cells [Value.map (some md)].toArray 42 (0, 0))]) ([(md, od)]) (H.keys _ bk md 42 (0, 0) od n.data hM.d hok.data))) ?_
  rintro t12 _ ⟨ks, Ck, hks, hnd, hmem, rfl⟩
  refine qE rfl <| qF <| qN <| qO <| qA rfl <| q9 (qQ rfl) <| q9 (qB rfl) <| q9 (qI rfl rfl) <| qG (x2 (r := ma) rfl hal) ?_
  rintro t17 _ ⟨it, io, rfl, hio, rfl⟩
  refine qF <| qg <| wS (Γ := {pΓ : (List Nat) × (Obj) × (Value) × (qV) × (List Int) // (fun (vis : List Nat) (io : Obj) (uo : Value) (Co : qV) (out : List Int) => IterOk ma oa al.length vis io ∧ SlC 3 1 uo out.length (iV out) Co ∧ out.Nodup ∧ (∀ k, k ∈ out ↔ n.data k ≠ none ∨ kc al vis (1, k))) pΓ.1 pΓ.2.1 pΓ.2.2.1 pΓ.2.2.2.1 pΓ.2.2.2.2}) (fun g => (fun (vis : List Nat) (io : Obj) (uo : Value) (Co : qV) (out : List Int) => [(0, .pointer (some ⟨p, 0, none⟩)), (3, uo), (17, .pointer (some ⟨it, 0, none⟩))]) g.1.1 g.1.2.1 g.1.2.2.1 g.1.2.2.2.1 g.1.2.2.2.2) (fun g => (fun (vis : List Nat) (io : Obj) (uo : Value) (Co : qV) (out : List Int) => [(it, io)] :: Co :: [(p, .cells [.int .u32 n.num, .int .u32 n.ver, .int .i64 n.kind, .int .i64 n.size, .int .u32 n.time, .map (some ma), .map (some md), .map (some ms), u].toArray 90 (0, 0))] :: [(ma, oa)] :: [(md, od)] :: [(ms, os)] :: C :: F) g.1.1 g.1.2.1 g.1.2.2.1 g.1.2.2.2.1 g.1.2.2.2.2) (fun g => (fun (vis : List Nat) (io : Obj) (uo : Value) (Co : qV) (out : List Int) => al.length - vis.length) g.1.1 g.1.2.1 g.1.2.2.1 g.1.2.2.2.1 g.1.2.2.2.2) ⟨([], io, t12, Ck, ks), by dsimp only; exact ⟨hio, hks, hnd, fun k => by rw [hmem]; exact ⟨fun h => .inl h, fun h => h.resolve_right WU⟩⟩⟩ (qX _) ?_
  rintro ⟨⟨vis, io, uo, Co, out⟩, hloop⟩
  replace hloop : IterOk ma oa al.length vis io ∧ SlC 3 1 uo out.length (iV out) Co ∧ out.Nodup ∧ (∀ k, k ∈ out ↔ n.data k ≠ none ∨ kc al vis (1, k)) := hloop
  obtain ⟨hio, hsl, hnd, hmem⟩ := hloop
  show Tr _ _ _ ([(0, .pointer (some ⟨p, 0, none⟩)), (3, uo), (17, .pointer (some ⟨it, 0, none⟩))]) ([(it, io)] :: Co :: [(p, .cells [.int .u32 n.num, .int .u32 n.ver, .int .i64 n.kind, .int .i64 n.size, .int .u32 n.time, .map (some ma), .map (some md), .map (some ms), u].toArray 90 (0, 0))] :: [(ma, oa)] :: [(md, od)] :: [(ms, os)] :: C :: F) _ _
  refine qO <| qG (xM (r := ma) (ob := oa) (vis := vis) rfl (fun w hw => Own.get hw (inferInstance : At _ ma oa _)) hal hio) ?_
  rintro t18 _ (⟨rfl, hfin, rfl⟩ | ⟨i, q, io', rfl, hq, hni, hio', rfl⟩)
  ·
   refine q9 (qf rfl rfl) <| qF <| qN <| wV rfl <| wa <| qr <| qt <| qh <| qJ <| qN ?_
   have hlen := YW hnd (fun k hk => VM hok hal hag ((hmem k).1 hk))
   have hsrt : srt out = jd n := idx_eq hok hal hag hnd hmem (fun k => QZ hio hfin k)
   refine qK <| qA rfl <| qG (w5 rfl (we (Co) (H.sort _ uo out.length out Co hsl rfl (by omega)))) ?_
   rintro t45 _ ⟨rfl, C', hs', rfl⟩
   refine qm <| qA rfl <| qE rfl <| qT ?_
   rw [hsrt] at hs'
   refine zN (qX (C' :: [(p, .cells [.int .u32 n.num, .int .u32 n.ver, .int .i64 n.kind, .int .i64 n.size, .int .u32 n.time, .map (some ma), .map (some md), .map (some ms), u].toArray 90 (0, 0))] :: [(ma, oa)] :: [(md, od)] :: [(ms, os)] :: C :: F)) <| zN (wZ (L' := C' :: Cn :: F) (by rw [hCn]; simp)) ?_
   refine qJ <| qy <| zq (.inl rfl) rfl (qu rfl) ?_
   exact ⟨C', by rw [← hsrt, Ws]; rw [← hsrt] at hs'; exact hs', rfl⟩
  ·
   refine q9 (qf rfl rfl) <| qF <| qN <| zM rfl <| qZ <| qJ <| qg <| qO <| q9 (x4 (r := ma) (ob := oa) (vis := vis) rfl (fun w hw => Own.get hw (inferInstance : At _ ma oa _)) hal hio' hq) ?_
   refine q9 (qf rfl rfl) <| qG (qj) ?_
   rintro t4 _ ⟨b4, rfl, rfl⟩
   refine qR (wc (vs := [.int .i64 q.1.1, .int .i64 q.1.2]) rfl rfl rfl rfl) <| qF <| zY (Γ := {pΓ : (Unit) // (fun (x : Unit) => True) pΓ}) (fun g => (fun (x : Unit) => [(0, .pointer (some ⟨p, 0, none⟩)), (3, uo), (4, .pointer (some ⟨b4, 0, none⟩)), (6, .bool (n.data q.1.2).isSome), (17, .pointer (some ⟨it, 0, none⟩))]) g.1) (fun g => (fun (x : Unit) => [(b4, .cells [Value.int .i64 q.1.1, Value.int .i64 q.1.2].toArray 100 (0, 0))] :: [(it, io')] :: Co :: [(p, .cells [.int .u32 n.num, .int .u32 n.ver, .int .i64 n.kind, .int .i64 n.size, .int .u32 n.time, .map (some ma), .map (some md), .map (some ms), u].toArray 90 (0, 0))] :: [(ma, oa)] :: [(md, od)] :: [(ms, os)] :: C :: F) g.1) ?_ ?_
   ·
    refine yb wB (show TrS _ _ _ _ [false, false, false, false, false, false, false, false, false, false, false, false, false] _ _ _ from ?_)
    refine qH 0 rfl rfl rfl (wO rfl) <| qH 1 rfl rfl rfl (y4 rfl) <| qH 2 rfl rfl rfl (wo rfl) <| qH 4 rfl rfl rfl (wo rfl) <| xu (i := 3) (j := 5) (k := 10) (by kernel_rfl) rfl ?_ ?_ ?_
    ·
     refine qd rfl rfl rfl (qI rfl rfl) <| wv (i := 5) (j := 10) (by kernel_rfl) rfl ?_ ?_
     ·
      refine qd rfl rfl rfl (qI rfl rfl) <| wv (i := 6) (j := 10) (by kernel_rfl) rfl ?_ ?_
      ·
       refine qd rfl rfl rfl (ye (z := Sec.zero) (q := q.1.2) rfl rfl hM.d) <| qH 7 rfl rfl rfl (wO rfl) <| qH 8 rfl rfl rfl (qk rfl rfl) <| qH 9 rfl rfl rfl (qk rfl rfl) <| qS 10 rfl <| w7 rfl rfl rfl (qj) ?_
       rintro t5 _ ⟨b5, rfl, rfl⟩
       refine qS 11 rfl <| wR rfl rfl rfl (qo rfl rfl (by simp) (by simp) (wl _)) ?_
       refine qH 12 rfl rfl rfl (wP rfl) <| wF <| qW ⟨(), ?_⟩ ?_
       · (try dsimp only); all_goals trivial
       · (try dsimp only); exact qX _
      ·
       refine w7 rfl rfl rfl (qj) ?_
       rintro t5 _ ⟨b5, rfl, rfl⟩
       refine qS 6 rfl <| qd rfl rfl rfl (ye (z := Sec.zero) (q := q.1.2) rfl rfl hM.d) <| qH 7 rfl rfl rfl (wO rfl) <| qH 8 rfl rfl rfl (qk rfl rfl) <| qH 9 rfl rfl rfl (qk rfl rfl) <| qS 11 rfl <| wR rfl rfl rfl (qo rfl rfl (by simp) (by simp) (wl _)) ?_
       refine qH 12 rfl rfl rfl (wP rfl) <| wF <| qW ⟨(), ?_⟩ ?_
       · (try dsimp only); all_goals trivial
       · (try dsimp only); exact qX _
     ·
      refine w7 rfl rfl rfl (qj) ?_
      rintro t5 _ ⟨b5, rfl, rfl⟩
      refine qS 5 rfl <| qd rfl rfl rfl (qI rfl rfl) <| qS 6 rfl <| qd rfl rfl rfl (ye (z := Sec.zero) (q := q.1.2) rfl rfl hM.d) <| qH 7 rfl rfl rfl (wO rfl) <| qH 8 rfl rfl rfl (qk rfl rfl) <| qH 9 rfl rfl rfl (qk rfl rfl) <| qS 11 rfl <| wR rfl rfl rfl (qo rfl rfl (by simp) (by simp) (wl _)) ?_
      refine qH 12 rfl rfl rfl (wP rfl) <| wF <| qW ⟨(), ?_⟩ ?_
      · (try dsimp only); all_goals trivial
      · (try dsimp only); exact qX _
    ·
     refine qd rfl rfl rfl (qI rfl rfl) <| wv (i := 3) (j := 10) (by kernel_rfl) rfl ?_ ?_
     ·
      refine qd rfl rfl rfl (qI rfl rfl) <| wv (i := 6) (j := 10) (by kernel_rfl) rfl ?_ ?_
      ·
       refine qd rfl rfl rfl (ye (z := Sec.zero) (q := q.1.2) rfl rfl hM.d) <| qH 7 rfl rfl rfl (wO rfl) <| qH 8 rfl rfl rfl (qk rfl rfl) <| qH 9 rfl rfl rfl (qk rfl rfl) <| qS 10 rfl <| w7 rfl rfl rfl (qj) ?_
       rintro t5 _ ⟨b5, rfl, rfl⟩
       refine qS 11 rfl <| wR rfl rfl rfl (qo rfl rfl (by simp) (by simp) (wl _)) ?_
       refine qH 12 rfl rfl rfl (wP rfl) <| wF <| qW ⟨(), ?_⟩ ?_
       · (try dsimp only); all_goals trivial
       · (try dsimp only); exact qX _
      ·
       refine w7 rfl rfl rfl (qj) ?_
       rintro t5 _ ⟨b5, rfl, rfl⟩
       refine qS 6 rfl <| qd rfl rfl rfl (ye (z := Sec.zero) (q := q.1.2) rfl rfl hM.d) <| qH 7 rfl rfl rfl (wO rfl) <| qH 8 rfl rfl rfl (qk rfl rfl) <| qH 9 rfl rfl rfl (qk rfl rfl) <| qS 11 rfl <| wR rfl rfl rfl (qo rfl rfl (by simp) (by simp) (wl _)) ?_
       refine qH 12 rfl rfl rfl (wP rfl) <| wF <| qW ⟨(), ?_⟩ ?_
       · (try dsimp only); all_goals trivial
       · (try dsimp only); exact qX _
     ·
      refine w7 rfl rfl rfl (qj) ?_
      rintro t5 _ ⟨b5, rfl, rfl⟩
      refine qS 3 rfl <| qd rfl rfl rfl (qI rfl rfl) <| qS 6 rfl <| qd rfl rfl rfl (ye (z := Sec.zero) (q := q.1.2) rfl rfl hM.d) <| qH 7 rfl rfl rfl (wO rfl) <| qH 8 rfl rfl rfl (qk rfl rfl) <| qH 9 rfl rfl rfl (qk rfl rfl) <| qS 11 rfl <| wR rfl rfl rfl (qo rfl rfl (by simp) (by simp) (wl _)) ?_
      refine qH 12 rfl rfl rfl (wP rfl) <| wF <| qW ⟨(), ?_⟩ ?_
      · (try dsimp only); all_goals trivial
      · (try dsimp only); exact qX _
    ·
     refine w7 rfl rfl rfl (qj) ?_
     rintro t5 _ ⟨b5, rfl, rfl⟩
     refine wv (i := 3) (j := 5) (by kernel_rfl) rfl ?_ ?_
     ·
      refine qd rfl rfl rfl (qI rfl rfl) <| qS 5 rfl <| qd rfl rfl rfl (qI rfl rfl) <| qS 6 rfl <| qd rfl rfl rfl (ye (z := Sec.zero) (q := q.1.2) rfl rfl hM.d) <| qH 7 rfl rfl rfl (wO rfl) <| qH 8 rfl rfl rfl (qk rfl rfl) <| qH 9 rfl rfl rfl (qk rfl rfl) <| qS 11 rfl <| wR rfl rfl rfl (qo rfl rfl (by simp) (by simp) (wl _)) ?_
      refine qH 12 rfl rfl rfl (wP rfl) <| wF <| qW ⟨(), ?_⟩ ?_
      · (try dsimp only); all_goals trivial
      · (try dsimp only); exact qX _
     ·
      refine qd rfl rfl rfl (qI rfl rfl) <| qS 3 rfl <| qd rfl rfl rfl (qI rfl rfl) <| qS 6 rfl <| qd rfl rfl rfl (ye (z := Sec.zero) (q := q.1.2) rfl rfl hM.d) <| qH 7 rfl rfl rfl (wO rfl) <| qH 8 rfl rfl rfl (qk rfl rfl) <| qH 9 rfl rfl rfl (qk rfl rfl) <| qS 11 rfl <| wR rfl rfl rfl (qo rfl rfl (by simp) (by simp) (wl _)) ?_
      refine qH 12 rfl rfl rfl (wP rfl) <| wF <| qW ⟨(), ?_⟩ ?_
      · (try dsimp only); all_goals trivial
      · (try dsimp only); exact qX _
   rintro ⟨x, hcut⟩
   replace hcut : True := hcut
   show Tr _ _ _ ([(0, .pointer (some ⟨p, 0, none⟩)), (3, uo), (4, .pointer (some ⟨b4, 0, none⟩)), (6, .bool (n.data q.1.2).isSome), (17, .pointer (some ⟨it, 0, none⟩))]) ([(b4, .cells [Value.int .i64 q.1.1, Value.int .i64 q.1.2].toArray 100 (0, 0))] :: [(it, io')] :: Co :: [(p, .cells [.int .u32 n.num, .int .u32 n.ver, .int .i64 n.kind, .int .i64 n.size, .int .u32 n.time, .map (some ma), .map (some md), .map (some ms), u].toArray 90 (0, 0))] :: [(ma, oa)] :: [(md, od)] :: [(ms, os)] :: C :: F) _ _
   refine qO <| q9 (qB rfl) <| q9 (qI rfl rfl) <| q9 (wn rfl rfl) <| qA rfl <| qY (s := 35) rfl (fun hg6_3 => ?_) (fun hg6_3 => ?_)
   ·
    refine qD rfl rfl (qP rfl) <| qD rfl rfl (kX rfl) <| q9 (qq rfl rfl) <| qF <| yB rfl (fun hc6 => ?_) (fun hc6 => ?_)
    ·
     have hlen := YW hnd (fun k hk => VM hok hal hag ((hmem k).1 hk))
     refine qK <| qA rfl <| q9 (qB rfl) <| q9 (qI rfl rfl) <| qG (wK rfl rfl rfl) ?_
     rintro t42 _ ⟨b42, rfl, rfl⟩
     refine qG (wg (m := 1) (sz := 1) rfl rfl hsl (wk (ys := iV [q.1.2]) inferInstance rfl rfl) rfl Tryz.underlying39 rfl rfl (by omega)) ?_
     rintro t43 _ ⟨C', hs', rfl⟩
     refine qE rfl <| qT <| qe <| w6 ⟨(vis ++ [i], io', t43, C', out ++ [q.1.2]), ?_⟩ ?_ ?_
     · (try dsimp only); exact ⟨hio', by rw [List.length_append]; simpa [iV] using hs', out_push hal hq hni hnd hmem (by simpa using hc6) hg6_3, out_mem hq hmem (by simpa using hc6) hg6_3⟩
     · (try dsimp only); exact jq hio'
     · (try dsimp only); exact qX _
    ·
     refine qZ <| qe <| w6 ⟨(vis ++ [i], io', uo, Co, out), ?_⟩ ?_ ?_
     · (try dsimp only); exact ⟨hio', hsl, hnd, by first | exact ZZ hq hmem (.inl hg6_3) | exact ZZ hq hmem (.inr (by simpa using hc6))⟩
     · (try dsimp only); exact jq hio'
     · (try dsimp only); exact qX _
   ·
    refine qL rfl rfl rfl <| qL rfl rfl rfl <| q9 (qU rfl rfl) <| qF <| wV rfl <| qZ <| qe <| w6 ⟨(vis ++ [i], io', uo, Co, out), ?_⟩ ?_ ?_
    · (try dsimp only); exact ⟨hio', hsl, hnd, by first | exact ZZ hq hmem (.inl hg6_3) | exact ZZ hq hmem (.inr (by simpa using hc6))⟩
    · (try dsimp only); exact jq hio'
    · (try dsimp only); exact qX _
def j2 (n : NS) (k : Int × Int) : NS := { n with
  gone := if (n.at_ k).getD 0 ≠ 0 then n.gone ++ [(n.at_ k).getD 0] else n.gone
  at_ := upd n.at_ k none
  stale := upd n.stale k none }
theorem VQ (p : Nat) (n : NS) (Cn : qV) (hn : NodeC p n Cn) (k : Int × Int) (hg : n.gone.length ≤ 1000000) :
    FnT Tryz.prog w0 69 #[.pointer (some ⟨p, 0, none⟩), yN k] (Cn :: F) (fun v L' => v = .tuple #[] ∧ ∃ Cn', NodeC p (j2 n k) Cn' ∧ L' = Cn' :: F) := by
  refine node_change hn ?_
  intro ma md ms oa od os u C hM
  unfold kk zO yN
  refine qi (E0 := [(0, _), (1, _)]) (N := 33) Tryz.func69 rfl rfl rfl rfl ?_
  refine qO <| qG (wq rfl) ?_
  rintro t3 _ ⟨b3, rfl, rfl⟩
  refine qF <| qN <| qN <| wT wB <| wD [(5, .pure _), (6, .pure _), (7, .pure _), (8, .pure _), (9, .pure _)] (by kernel_rfl) rfl rfl rfl wm (qC rfl (fun X => qP rfl) <| qC rfl (fun X => qQ rfl) <| qC rfl (fun X => qB rfl) <| qC rfl (fun X => qI rfl rfl) <| qC rfl (fun X => wW rfl) <| ParH.nil rfl) ?_
  dsimp only [ze, List.drop, List.length]
  refine wE (by kernel_rfl) (yP (z := 0) (q := k) rfl rfl hM.a) ?_
  refine wE (by kernel_rfl) (zS rfl) ?_
  refine wI <| qJ <| qO <| qA rfl <| q9 (zE rfl rfl) <| qF <| qM rfl (fun hc2 => ?_) (fun hc2 => ?_)
  ·
   refine qK <| qA rfl <| qA rfl <| q9 (qQ rfl) <| q9 (qB rfl) <| q9 (qI rfl rfl) <| qA rfl <| qG (wK rfl rfl rfl) ?_
   rintro t19 _ ⟨b19, rfl, rfl⟩
   refine qG (wg (m := 1) (sz := 1) rfl rfl hM.g (wk (ys := iV [(n.at_ k).getD 0]) inferInstance rfl rfl) rfl Tryz.underlying39 rfl rfl (by omega)) ?_
   rintro t20 _ ⟨C', hs', rfl⟩
   obtain ⟨gq, gc, rfl⟩ := hs'.slice
   refine q9 (qQ rfl) <| q9 (qB rfl) <| qR (wu rfl rfl rfl) <| qF <| qN <| wT wB <| wD [(23, .pure _), (24, .pure _), (25, .pure _), (26, .pure _), (27, .pure _)] (by kernel_rfl) rfl rfl rfl wm (qC rfl (fun X => qP rfl) <| qC rfl (fun X => qQ rfl) <| qC rfl (fun X => qB rfl) <| qC rfl (fun X => qI rfl rfl) <| qC rfl (fun X => wW rfl) <| ParH.nil rfl) ?_
   dsimp only [ze, List.drop, List.length]
   refine zi (by kernel_rfl) (xD (q := k) rfl rfl hM.a) ?_
   rintro _ _ ⟨oa', hoa', rfl⟩
   refine wI <| qJ <| wT wB <| wD [(28, .pure _), (29, .pure _), (30, .pure _), (31, .pure _), (32, .pure _)] (by kernel_rfl) rfl rfl rfl wm (qC rfl (fun X => qP rfl) <| qC rfl (fun X => qQ rfl) <| qC rfl (fun X => qB rfl) <| qC rfl (fun X => qI rfl rfl) <| qC rfl (fun X => wW rfl) <| ParH.nil rfl) ?_
   dsimp only [ze, List.drop, List.length]
   refine zi (by kernel_rfl) (xD (q := k) rfl rfl hM.s) ?_
   rintro _ _ ⟨os', hos', rfl⟩
   refine wI <| kA ([(p, .cells [.int .u32 n.num, .int .u32 n.ver, .int .i64 n.kind, .int .i64 n.size, .int .u32 n.time, .map (some ma), .map (some md), .map (some ms), .slice gq (n.gone.length + 1) gc].toArray 90 (0, 0))] :: [(ma, oa')] :: [(md, od)] :: [(ms, os')] :: C' :: F) (.inr rfl) rfl  ?_
   exact ⟨rfl, ma, md, ms, oa', od, os', _, C', ⟨hoa', hM.d, hos', by simp only [j2, if_pos hc2]; simpa [iV] using hs'⟩, rfl⟩
  ·
   refine qZ <| qJ <| qN <| wT wB <| wD [(23, .pure _), (24, .pure _), (25, .pure _), (26, .pure _), (27, .pure _)] (by kernel_rfl) rfl rfl rfl wm (qC rfl (fun X => qP rfl) <| qC rfl (fun X => qQ rfl) <| qC rfl (fun X => qB rfl) <| qC rfl (fun X => qI rfl rfl) <| qC rfl (fun X => wW rfl) <| ParH.nil rfl) ?_
   dsimp only [ze, List.drop, List.length]
   refine zi (by kernel_rfl) (xD (q := k) rfl rfl hM.a) ?_
   rintro _ _ ⟨oa', hoa', rfl⟩
   refine wI <| qJ <| wT wB <| wD [(28, .pure _), (29, .pure _), (30, .pure _), (31, .pure _), (32, .pure _)] (by kernel_rfl) rfl rfl rfl wm (qC rfl (fun X => qP rfl) <| qC rfl (fun X => qQ rfl) <| qC rfl (fun X => qB rfl) <| qC rfl (fun X => qI rfl rfl) <| qC rfl (fun X => wW rfl) <| ParH.nil rfl) ?_
   dsimp only [ze, List.drop, List.length]
   refine zi (by kernel_rfl) (xD (q := k) rfl rfl hM.s) ?_
   rintro _ _ ⟨os', hos', rfl⟩
   refine wI <| kA ([(p, .cells [.int .u32 n.num, .int .u32 n.ver, .int .i64 n.kind, .int .i64 n.size, .int .u32 n.time, .map (some ma), .map (some md), .map (some ms), u].toArray 90 (0, 0))] :: [(ma, oa')] :: [(md, od)] :: [(ms, os')] :: C :: F) (.inr rfl) rfl  ?_
   exact ⟨rfl, ma, md, ms, oa', od, os', u, C, ⟨hoa', hM.d, hos', by simp only [j2, if_neg hc2]; exact hM.g⟩, rfl⟩
theorem yj {L L' : Res} (h : ∀ f : VC → Bool, L.flatten.countP f = L'.flatten.countP f) : ∀ w, Own w0 L w → Own w0 L' w := fun w hw => by
  classical
  exact hw.perm (List.perm_iff_count.2 fun a => h _)
def Kt (gv : Value) (K : qV) (xs : List Int) (pr : Int → Bool) : Prop := ∀ (w0 : World) (F : Res), ∀ a ∈ xs, FnV Tryz.prog w0 gv [.int .i64 a] (K :: F) (fun v L' => v = .bool (pr a) ∧ L' = K :: F)
def Vr (xs : List Int) (pr : Int → Bool) : Int := if xs.any pr then (xs.findIdx pr : Int) else -1
theorem idxF_hit {xs : List Int} {pr : Int → Bool} {i : Nat} {q : Int} (hn : (xs.take i).any pr = false) (hq : xs[i]? = some q) (h : pr q = true) : Vr xs pr = (i : Int) := by
  unfold Vr
  obtain ⟨hlt, he⟩ := List.getElem?_eq_some_iff.1 hq
  rw [if_pos (List.any_eq_true.2 ⟨q, List.mem_of_getElem? hq, h⟩)]
  congr 1
  rw [List.findIdx_eq hlt]
  refine ⟨by rw [he]; exact h, fun j hj => ?_⟩
  have := List.any_eq_false.1 hn (xs[j]'(by omega)) (List.mem_iff_getElem.2 ⟨j, by simp; omega, by simp⟩)
  simpa using this
theorem any_snoc {xs : List Int} {pr : Int → Bool} {i : Nat} {q : Int} (hn : (xs.take i).any pr = false) (hq : xs[i]? = some q) (h : pr q = false) : (xs.take (i + 1)).any pr = false := by
  rw [List.take_add_one, hq, List.any_append, hn]; simp [h]
theorem indexFunc_ok (gv u : Value) (K C : qV) (xs : List Int) (pr : Int → Bool) (hp : Kt gv K xs pr) (hs : SlC 3 1 u xs.length (iV xs) C) (hl : xs.length ≤ 1000000) :
    FnT Tryz.prog w0 96 #[u, gv] (C :: K :: F) (fun v L' => v = .int .i64 (Vr xs pr) ∧ L' = C :: K :: F) := by
  obtain ⟨pu, cu, hu⟩ := hs.slice
  refine qi (E0 := [(0, _), (1, _)]) (N := 19) Tryz.func96 rfl rfl rfl rfl ?_
  refine qO <| qE rfl <| qF <| qN <| qO <| qA rfl <| q9 (w8 (by rw [← hu]; rfl)) ?_
  refine qA rfl <| qF <| qg <| wS (Γ := {pΓ : (Nat) // (fun (i : Nat) => i ≤ xs.length ∧ (xs.take i).any pr = false) pΓ}) (fun g => (fun (i : Nat) => [(0, u), (1, gv), (7, .int .i64 xs.length), (8, .int .i64 i)]) g.1) (fun g => (fun (i : Nat) => C :: K :: F) g.1) (fun g => (fun (i : Nat) => xs.length - i) g.1) ⟨0, by dsimp only; exact ⟨by omega, rfl⟩⟩ (qX _) ?_
  rintro ⟨i, hloop⟩
  replace hloop : i ≤ xs.length ∧ (xs.take i).any pr = false := hloop
  obtain ⟨hi, hn⟩ := hloop
  show Tr _ _ _ ([(0, u), (1, gv), (7, .int .i64 xs.length), (8, .int .i64 i)]) (C :: K :: F) _ _
  refine qO <| q9 (wJ rfl rfl) <| qF <| qN <| qM rfl (fun hc2 => ?_) (fun hc2 => ?_)
  ·
   refine qZ <| qJ <| qN <| qg <| qN ?_
   obtain ⟨q, hq⟩ : ∃ q, xs[i]? = some q := ⟨_, List.getElem?_eq_getElem (by omega)⟩
   refine qK <| qA rfl <| qE rfl <| qm <| qA rfl <| qA rfl <| qA rfl <| qG (yD (j := i) rfl rfl hs (by omega) (by omega)) ?_
   rintro t14 _ ⟨b, cap, spare, hqc, rfl, hcap, hnc, rfl, rfl⟩
   refine q9 (qI rfl (show wY _ _ = some (.int .i64 q) by rw [zB, Nat.mul_one, List.getElem?_append_left (by simp [iV]; omega)]; simp [iV, hq])) ?_
   refine q9 (kP rfl rfl (Y0 K (hp w0 _ q (List.mem_of_getElem? hq)))) <| qF <| yB rfl (fun hc4 => ?_) (fun hc4 => ?_)
   ·
    refine qO <| qA rfl <| qE rfl <| qF <| qy <| wH <| qv <| k5 <| wH <| qv <| zq (.inl rfl) rfl (qu rfl) ?_
    exact ⟨by rw [idxF_hit hn hq hc4], rfl⟩
   ·
    refine qZ <| qe <| qJ <| qK <| q9 (w9 rfl rfl (by omega)) <| qA rfl <| qT <| w6 ⟨i + 1, ?_⟩ ?_ ?_
    · (try dsimp only); exact ⟨by omega, any_snoc hn hq (by simpa using hc4)⟩
    · (try dsimp only); omega
    · (try dsimp only); exact qX _
  ·
   refine wa <| qr <| qt <| qh <| qJ <| qO <| qE rfl <| qF <| qy <| zq (.inl rfl) rfl (qu rfl) ?_
   exact ⟨by rw [List.take_of_length_le (by omega)] at hn; unfold Vr; rw [hn]; rfl, rfl⟩
theorem xZ (gv u : Value) (K C : qV) (xs : List Int) (pr : Int → Bool) (hp : Kt gv K xs pr) (hs : SlC 3 1 u xs.length (iV xs) C) (hl : xs.length ≤ 1000000) :
    FnT Tryz.prog w0 73 #[u, gv] (C :: K :: F) (fun v L' => v = .bool (xs.any pr) ∧ L' = C :: K :: F) := by
  refine qi (E0 := [(0, _), (1, _)]) (N := 9) Tryz.func73 rfl rfl rfl rfl ?_
  refine qO <| qE rfl <| qm <| qA rfl <| qA rfl <| q9 (wM rfl (k6 (C) (K) (indexFunc_ok gv u K C xs pr hp hs hl))) <| q9 (kr rfl rfl) <| qE rfl <| qF <| qy <| zq (.inl rfl) rfl (qu rfl) ?_
  exact ⟨by congr 1; unfold Vr; cases h : xs.any pr <;> simp, rfl⟩
theorem Y1 {P : Program} {f : FuncId} {vs : List Value} {R : Value → Res → Prop} [he : Enters P f] (h : FnT P w0 f vs.toArray L R) : FnV P w0 (.func (.func f) #[] #[]) vs L R := by
  have := Wo (first := []) (captured := []) (vs := vs) (f := f) (P := P) (w0 := w0) (L := L) (R := R) (by simpa using h)
  exact this
theorem FnV.of1 {P : Program} {f : FuncId} {vs : List Value} {c : Value} {R : Value → Res → Prop} [he : Enters P f] (h : FnT P w0 f (vs ++ [c]).toArray L R) : FnV P w0 (.func (.func f) #[] #[c]) vs L R := by
  have := Wo (first := []) (captured := [c]) (vs := vs) (f := f) (P := P) (w0 := w0) (L := L) (R := R) (by simpa using h)
  exact this
theorem FnV.pre {P : Program} {g : Value} {vs : List Value} {L L' : Res} {R : Value → Res → Prop} (h : FnV P w0 g vs L' R) (hL : ∀ w, Own w0 L w → Own w0 L' w) : FnV P w0 g vs L R := by
  obtain ⟨f, first, captured, e1, e2, e3⟩ := h.ex
  exact ⟨f, first, captured, e1, e2, e3.pre hL⟩
theorem Qu {P : Program} {f : FuncId} {args : Array Value} {L L1 : Res} {Rv : Value → Prop} (h : FnT P w0 f args L1 (fun v L' => Rv v ∧ L' = L1)) (e : L.flatten = L1.flatten) : FnT P w0 f args L (fun v L' => Rv v ∧ L' = L) :=
  (h.pre (wZ e)).post fun v L' ⟨h1, h2⟩ => ⟨_, ⟨h1, rfl⟩, by subst h2; exact wZ e.symm⟩
theorem Yt {n : NS} {i : Int} (h : i ∈ jd n) : 0 ≤ i ∧ i < 1064 := by
  unfold jd at h
  obtain ⟨k, hk, rfl⟩ := List.mem_map.1 (List.mem_filter.1 h).1
  rw [List.mem_range] at hk; omega
theorem Zf (n : NS) : (jd n).length ≤ 1064 := by
  unfold jd
  refine Nat.le_trans (List.length_filter_le _ _) ?_
  simp
def WR (n : NS) (p : Int × Int) : Bool := if p = (4, 0) then (jd n).any (fun i => decide ((ww i).1 = 5)) else (jd n).any (fun i => decide (ww i = p))
theorem isLeaf_ok (G : qV) (hg : kj G) (xs : List Int) (hx : ∀ x ∈ xs, 0 ≤ x ∧ x < 1064) : Kt (.func (.func 94) #[] #[]) G xs (fun i => decide ((ww i).1 = 5)) := by
  intro w0 F a ha
  have hr := hx a ha
  refine Y1 ?_
  refine qi (E0 := [(0, _)]) (N := 7) Tryz.func94 rfl rfl rfl rfl ?_
  refine qO <| qE rfl <| qm <| qA rfl <| q9 (wM rfl (zk (G) (Zx a G hg (by omega)))) <| q9 (op_field (n := 0) rfl Tryz.underlying100 rfl rfl) <| q9 (wn rfl rfl) <| qE rfl <| qF <| qy <| zq (.inl rfl) rfl (qu rfl) ?_
  exact ⟨rfl, rfl⟩
theorem isAbove_ok (G : qV) (hg : kj G) (xs : List Int) (hx : ∀ x ∈ xs, 0 ≤ x ∧ x < 1064) (b : Nat) (p : Int × Int) :
    Kt (.func (.func 95) #[] #[.pointer (some ⟨b, 0, none⟩)]) ((b, .cells [.int .i64 p.1, .int .i64 p.2].toArray 100 (0, 0)) :: G) xs (fun i => decide (ww i = p)) := by
  intro w0 F a ha
  have hr := hx a ha
  refine FnV.of1 ?_
  refine Qu (L1 := [(b, .cells [.int .i64 p.1, .int .i64 p.2].toArray 100 (0, 0))] :: G :: F) ?_ (by simp)
  refine qi (E0 := [(0, _), (1, _)]) (N := 8) Tryz.func95 rfl rfl rfl rfl ?_
  refine qO <| qE rfl <| qF <| qN <| wT wB <| wD [(4, .pure _), (5, .pure _), (6, .pure _)] (by kernel_rfl) rfl rfl rfl wm (qC rfl (fun X => qP rfl) <| qC rfl (fun X => wM rfl (zk (G) (Zx a G hg (by omega)))) <| qC rfl (fun X => wW rfl) <| ParH.nil rfl) ?_
  dsimp only [ze, List.drop, List.length]
  refine wE (by kernel_rfl) (Wt rfl rfl) ?_
  refine wE (by kernel_rfl) (zS rfl) ?_
  refine wI <| qJ <| qy <| zq (.inl rfl) rfl (qu rfl) ?_
  exact ⟨by congr 1; simp [Prod.ext_iff], rfl⟩
theorem Yg (H : jL w0) (p : Nat) (n : NS) (Cn G : qV) (hn : NodeC p n Cn) (hg : kj G) (hok : NOk n) (q : Int × Int) :
    FnT Tryz.prog w0 71 #[.pointer (some ⟨p, 0, none⟩), yN q] (Cn :: G :: F) (fun v L' => v = .bool (WR n q) ∧ L' = Cn :: G :: F) := by
  obtain ⟨e0, f0, e1, f1, e2, f2, hG⟩ := id hg
  have hGl : ([G] : Res).flatten = ([(0, .cells [Value.int .i64 2, Value.int .i64 0].toArray e0 f0)] :: [(1, .cells [Value.int .i64 4, Value.int .i64 0].toArray e1 f1)] :: [(2, .cells [Value.int .i64 3, Value.int .i64 0].toArray e2 f2)] :: []).flatten := by rw [hG]; simp
  refine Qu (L1 := Cn :: [(0, .cells [Value.int .i64 2, Value.int .i64 0].toArray e0 f0)] :: [(1, .cells [Value.int .i64 4, Value.int .i64 0].toArray e1 f1)] :: [(2, .cells [Value.int .i64 3, Value.int .i64 0].toArray e2 f2)] :: F) ?_ (by rw [hG]; simp)
  unfold yN
  refine qi (E0 := [(0, _), (1, _)]) (N := 15) Tryz.func71 rfl rfl rfl rfl ?_
  refine qO <| qG (wq rfl) ?_
  rintro t3 _ ⟨b3, rfl, rfl⟩
  refine qE rfl <| qF <| qN <| qO <| q9 (wW rfl) <| q9 (wW rfl) <| q9 (Wt rfl rfl) <| qF <| qM rfl (fun hc1 => ?_) (fun hc1 => ?_)
  ·
   refine qN <| yy (wZ (L' := [(b3, .cells [.int .i64 q.1, .int .i64 q.2].toArray 100 (0, 0))] :: Cn :: G :: F) (by rw [hG]; simp)) ?_
   refine qK <| qA rfl <| qG (w5 rfl (we (Cn) (WA H p n Cn hn hok))) ?_
   rintro t9 _ ⟨C', hs, rfl⟩
   refine q9 (wM rfl (k6 (C') (G) (xZ _ t9 G C' (jd n) _ (isLeaf_ok G hg _ (fun x hx => Yt hx)) hs (by have := Zf n; omega)))) ?_
   refine qE rfl <| qT <| zN (qX (Cn :: G :: F)) <| zN (wZ (L' := Cn :: [(0, .cells [Value.int .i64 2, Value.int .i64 0].toArray e0 f0)] :: [(1, .cells [Value.int .i64 4, Value.int .i64 0].toArray e1 f1)] :: [(2, .cells [Value.int .i64 3, Value.int .i64 0].toArray e2 f2)] :: F) (by rw [hG]; simp)) ?_
   refine qJ <| qy <| qv <| zq (.inl rfl) rfl (qu rfl) ?_
   exact ⟨by unfold WR; rw [if_pos (by simpa [Prod.ext_iff] using hc1)], rfl⟩
  ·
   refine qZ <| qJ <| qN <| yy (L' := ((b3, .cells [.int .i64 q.1, .int .i64 q.2].toArray 100 (0, 0)) :: G) :: Cn :: F) (by rw [hG]; exact (yj (by intro f; simp only [List.flatten_cons, List.flatten_nil, List.append_nil, List.countP_append, List.countP_cons, List.countP_nil]; omega))) ?_
   refine qK <| qA rfl <| qG (w5 rfl (we (Cn) (WA H p n Cn hn hok))) ?_
   rintro t12 _ ⟨C', hs, rfl⟩
   refine q9 (z6 rfl rfl) <| q9 (wM rfl (k6 (C') (((b3, .cells [.int .i64 q.1, .int .i64 q.2].toArray 100 (0, 0)) :: G)) (xZ _ t12 _ C' (jd n) _ (isAbove_ok G hg _ (fun x hx => Yt hx) b3 q) hs (by have := Zf n; omega)))) ?_
   refine qE rfl <| qT <| zN (L' := [(b3, .cells [.int .i64 q.1, .int .i64 q.2].toArray 100 (0, 0))] :: C' :: Cn :: G :: F) (yj (by intro f; simp only [List.flatten_cons, List.flatten_nil, List.append_nil, List.countP_append, List.countP_cons, List.countP_nil]; omega)) ?_
   refine zN (qX (Cn :: G :: F)) <| zN (wZ (L' := Cn :: [(0, .cells [Value.int .i64 2, Value.int .i64 0].toArray e0 f0)] :: [(1, .cells [Value.int .i64 4, Value.int .i64 0].toArray e1 f1)] :: [(2, .cells [Value.int .i64 3, Value.int .i64 0].toArray e2 f2)] :: F) (by rw [hG]; simp)) ?_
   refine qJ <| qy <| zq (.inl rfl) rfl (qu rfl) ?_
   exact ⟨by unfold WR; rw [if_neg (by simpa [Prod.ext_iff] using hc1)], rfl⟩
end
end Go.Proofs.YtjikpomndbkfgaaGreatDoor
namespace Go.Nd
def qw (k : Int × Int) : Prop := (k.1 = 1 ∧ 0 ≤ k.2 ∧ k.2 < 1064) ∨ k = (2, 0) ∨ k = (3, 0) ∨ k = (4, 0) ∨ (k.1 = 5 ∧ 0 ≤ k.2 ∧ k.2 < 32)
def KF (k : Int) : Int := if k = 5 then 1 else if k = 3 then 2 else if k = 4 then 3 else if k = 2 then 4 else 0
def kZ (a b : Int × Int) : Int := if a.1 ≠ b.1 then KF a.1 - KF b.1 else a.2 - b.2
def allParts : List (Int × Int) := (List.range 1064).map (fun i : Nat => ((1 : Int), (i : Int))) ++ ((List.range 32).map (fun i : Nat => ((5 : Int), (i : Int))) ++ [(3, 0), (4, 0), (2, 0)])
theorem zn (k : Int × Int) : k ∈ allParts ↔ qw k := by
  unfold allParts qw
  simp only [List.mem_append, List.mem_map, List.mem_range, List.mem_cons, List.not_mem_nil, or_false]
  constructor
  · rintro (⟨i, hi, rfl⟩ | ⟨i, hi, rfl⟩ | rfl | rfl | rfl)
    · exact .inl ⟨rfl, by simp, by simp; omega⟩
    · exact .inr (.inr (.inr (.inr ⟨rfl, by simp, by simp; omega⟩)))
    · exact .inr (.inr (.inl rfl))
    · exact .inr (.inr (.inr (.inl rfl)))
    · exact .inr (.inl rfl)
  · rintro (⟨h1, h2, h3⟩ | h | h | h | ⟨h1, h2, h3⟩)
    · exact .inl ⟨k.2.toNat, by omega, Prod.ext h1.symm (by simp; omega)⟩
    · exact .inr (.inr (.inr (.inr h)))
    · exact .inr (.inr (.inl h))
    · exact .inr (.inr (.inr (.inl h)))
    · exact .inr (.inl ⟨k.2.toNat, by omega, Prod.ext h1.symm (by simp; omega)⟩)
theorem allParts_sorted : allParts.Pairwise (fun a b => kZ a b < 0) := by
  unfold allParts
  rw [List.pairwise_append, List.pairwise_append]
  refine ⟨?_, ⟨?_, ?_, ?_⟩, ?_⟩
  · rw [List.pairwise_map]
    exact List.pairwise_lt_range.imp (fun h => by simp [kZ]; omega)
  · rw [List.pairwise_map]
    exact List.pairwise_lt_range.imp (fun h => by simp [kZ]; omega)
  · simp [kZ, KF]
  · intro a ha b hb
    obtain ⟨i, _, rfl⟩ := List.mem_map.1 ha
    simp only [List.mem_cons, List.not_mem_nil, or_false] at hb
    rcases hb with rfl | rfl | rfl <;> simp [kZ, KF]
  · intro a ha b hb
    obtain ⟨i, _, rfl⟩ := List.mem_map.1 ha
    simp only [List.mem_append, List.mem_cons, List.not_mem_nil, or_false] at hb
    rcases hb with hb | rfl | rfl | rfl
    · obtain ⟨j, _, rfl⟩ := List.mem_map.1 hb
      simp [kZ, KF]
    all_goals simp [kZ, KF]
theorem Yf (a : Int × Int) : ¬ kZ a a < 0 := by simp [kZ]
theorem XZ {a b : Int × Int} (ha : qw a) (hb : qw b) (h : KF a.1 = KF b.1) : a.1 = b.1 := by
  have key : ∀ c : Int × Int, qw c → c.1 = 1 ∨ c.1 = 2 ∨ c.1 = 3 ∨ c.1 = 4 ∨ c.1 = 5 := by
    intro c hc
    rcases hc with ⟨h, _⟩ | h | h | h | ⟨h, _⟩
    · exact .inl h
    · exact .inr (.inl (by rw [h]))
    · exact .inr (.inr (.inl (by rw [h])))
    · exact .inr (.inr (.inr (.inl (by rw [h]))))
    · exact .inr (.inr (.inr (.inr h)))
  rcases key a ha with h1 | h1 | h1 | h1 | h1 <;> rcases key b hb with h2 | h2 | h2 | h2 | h2 <;> rw [h1, h2] at h ⊢ <;> revert h <;> decide
theorem JT {a b : Int × Int} (ha : qw a) (hb : qw b) (h1 : kZ a b ≤ 0) (h2 : kZ b a ≤ 0) : a = b := by
  unfold kZ at h1 h2
  by_cases h : a.1 = b.1
  · rw [if_neg (by simp [h])] at h1
    rw [if_neg (by simp [h])] at h2
    exact Prod.ext h (by omega)
  · rw [if_pos h] at h1
    rw [if_pos (Ne.symm h)] at h2
    exact absurd (XZ ha hb (by omega)) h
theorem WF {a b c : Int × Int} (ha : qw a) (hb : qw b) (hc : qw c) (h1 : kZ a b ≤ 0) (h2 : kZ b c ≤ 0) : kZ a c ≤ 0 := by
  unfold kZ at *
  split
  · rename_i hac
    split at h1
    · split at h2
      · omega
      · rename_i hbc
        have : b.1 = c.1 := by omega
        rw [← this]; exact h1
    · rename_i hab
      have e : a.1 = b.1 := by omega
      split at h2
      · rw [e]; exact h2
      · omega
  · rename_i hac
    have e : a.1 = c.1 := by omega
    split at h1
    · rename_i hab
      split at h2
      · rename_i hbc
        have := XZ ha hb (by rw [e] at h1 ⊢; omega)
        omega
      · omega
    · split at h2
      · omega
      · omega
theorem cmpP_total (a b : Int × Int) : kZ a b ≤ 0 ∨ kZ b a ≤ 0 := by
  unfold kZ
  by_cases h : a.1 = b.1
  · rw [if_neg (by simp [h]), if_neg (by simp [h])]; omega
  · rw [if_pos h, if_pos (Ne.symm h)]; omega
theorem sorted_parts_eq {xs ys : List (Int × Int)} (hx : xs.Pairwise (fun a b => kZ a b ≤ 0)) (hy : ys.Pairwise (fun a b => kZ a b ≤ 0)) (hp : xs.Perm ys) (hok : ∀ x ∈ xs, qw x) : xs = ys :=
  List.Perm.eq_of_pairwise (le := fun a b => kZ a b ≤ 0) (fun a b ha hb h1 h2 => JT (hok a ha) (hok b (hp.mem_iff.2 hb)) h1 h2) hx hy hp
theorem WO {xs : List (Int × Int)} (hn : xs.Nodup) (hok : ∀ x ∈ xs, qw x) : xs.length ≤ 1099 := by
  have h : ∀ (l1 l2 : List (Int × Int)), l1.Nodup → (∀ x ∈ l1, x ∈ l2) → l1.length ≤ l2.length := by
    intro l1
    induction l1 with
    | nil => intro l2 _ _; simp
    | cons a l ih =>
      intro l2 hn hs
      have h1 := List.nodup_cons.1 hn
      have ha := hs a (by simp)
      have := ih (l2.erase a) h1.2 (fun x hx => (List.mem_erase_of_ne (fun e => h1.1 (by subst e; exact hx))).2 (hs x (by simp [hx])))
      have e := List.length_erase_of_mem ha
      have pos : 0 < l2.length := List.length_pos_of_mem ha
      simp; omega
  have := h xs allParts hn (fun x hx => (zn x).2 (hok x hx))
  have e : allParts.length = 1099 := by simp [allParts]
  omega
theorem WN {out : List (Int × Int)} {pr : Int × Int → Bool} (hn : out.Nodup) (hm : ∀ k, k ∈ out ↔ qw k ∧ pr k = true) {xs : List (Int × Int)} (hp : xs.Perm out) (hs : xs.Pairwise (fun a b => kZ a b ≤ 0)) : xs = allParts.filter pr := by
  refine sorted_parts_eq hs ((allParts_sorted.filter pr).imp (fun h => by omega)) ?_ (fun x hx => ((hm x).1 (hp.mem_iff.1 hx)).1)
  refine hp.trans ((List.perm_ext_iff_of_nodup hn ?_).2 fun k => ?_)
  · exact (allParts_sorted.filter pr).imp (fun {a b} h e => by subst e; exact Yf a h)
  · rw [hm, List.mem_filter, zn]
end Go.Nd
namespace Go.Proofs.YtjikpomndbkfgaaGreatDoor
open Go Go.Sx Go.Nd
set_option maxRecDepth 10000
section
variable {w0 : World} {L F : Res}
def setStale (n : NS) (k : Int × Int) : NS := { n with stale := upd n.stale k (some 1) }
def zw (n : NS) (i : Int) (s : Option Sec) : NS := { n with data := upd n.data i s }
def loseIf (n : NS) (k : Int × Int) : NS := if WR n k then n else j2 n k
def jr (n : NS) (i : Int) : NS :=
  if ww i = (2, 0) then setStale (j2 (zw n i none) (1, i)) (2, 0)
  else ([ww i, (4, 0)] : List (Int × Int)).foldl loseIf (if (ww i).1 = 5 then setStale (setStale (setStale (j2 (zw n i none) (1, i)) (2, 0)) (ww i)) (4, 0) else setStale (setStale (j2 (zw n i none) (1, i)) (2, 0)) (ww i))
theorem Q9 {i : Int} (h : 0 ≤ i ∧ i < 1064) : qw (ww i) := by
  unfold ww qw wG
  repeat' split
  all_goals simp_all
  all_goals omega
theorem NOk.lose {n : NS} (h : NOk n) (k : Int × Int) : NOk (j2 n k) :=
  ⟨h.data, fun q hq => h.at1 q (fun e => hq (by simp only [j2, upd]; split <;> first | rfl | exact e)),
   fun q a hq => h.at2 q a (by simp only [j2, upd] at hq; split at hq; · cases hq
                               · exact hq),
   fun q hq => h.stale q (fun e => hq (by simp only [j2, upd]; split <;> first | rfl | exact e))⟩
theorem NOk.setStale {n : NS} (h : NOk n) {k : Int × Int} (hk : qw k) : NOk (setStale n k) :=
  ⟨h.data, h.at1, h.at2, fun q hq => by
    by_cases e : q = k
    · subst e; exact hk
    · exact h.stale q (fun e' => hq (by simp only [Proofs.YtjikpomndbkfgaaGreatDoor.setStale]; rw [wb _ _ e]; exact e'))⟩
theorem NOk.dataNone {n : NS} (h : NOk n) (i : Int) : NOk (zw n i none) :=
  ⟨fun k hk => h.data k (fun e => hk (by simp only [zw, upd]; split <;> first | rfl | exact e)), h.at1, h.at2, h.stale⟩
theorem NOk.dataSome {n : NS} (h : NOk n) {i : Int} (hi : 0 ≤ i ∧ i < 1064) (s : Sec) : NOk (zw n i (some s)) :=
  ⟨fun k hk => by
    by_cases e : k = i
    · subst e; exact hi
    · exact h.data k (fun e' => hk (by simp only [zw]; rw [wb _ _ e]; exact e')), h.at1, h.at2, h.stale⟩
theorem NOk.loseIf {n : NS} (h : NOk n) (k : Int × Int) : NOk (loseIf n k) := by
  unfold Proofs.YtjikpomndbkfgaaGreatDoor.loseIf
  split
  · exact h
  · exact h.lose k
theorem Wu (n : NS) (k : Int × Int) : (j2 n k).gone.length ≤ n.gone.length + 1 := by
  simp only [j2]; split <;> simp
theorem QK (n : NS) (k : Int × Int) : (loseIf n k).gone.length ≤ n.gone.length + 1 := by
  unfold loseIf; split
  · omega
  · exact Wu n k
def zK (p : Int × Int) : List Value := [.int .i64 p.1, .int .i64 p.2]
theorem y9 (p : Int × Int) : (zK p).length = 2 := rfl
theorem hole_ok (H : jL w0) (p : Nat) (n : NS) (Cn G : qV) (hn : NodeC p n Cn) (hg : kj G) (hok : NOk n) (i : Int) (hi : 0 ≤ i ∧ i < 1064) (hgl : n.gone.length ≤ 900000) :
    FnT Tryz.prog w0 42 #[.pointer (some ⟨p, 0, none⟩), .int .i64 i] (Cn :: G :: F) (fun v L' => v = .tuple #[] ∧ ∃ Cn', NodeC p (jr n i) Cn' ∧ L' = Cn' :: G :: F) := by
  obtain ⟨e0, f0, e1, f1, e2, f2, hG⟩ := id hg
  obtain ⟨ma, md, ms, oa, od, os, u, C, hM, hCn⟩ := hn.eq
  unfold zO at hCn
  refine FnT.pre (L' := [(p, .cells [.int .u32 n.num, .int .u32 n.ver, .int .i64 n.kind, .int .i64 n.size, .int .u32 n.time, .map (some ma), .map (some md), .map (some ms), u].toArray 90 (0, 0))] :: [(ma, oa)] :: [(md, od)] :: [(ms, os)] :: C :: G :: F) ?_ (wZ (by rw [hCn]; simp))
  have hpa := Q9 hi
  obtain ⟨ab, hab⟩ : ∃ ab, ww i = ab := ⟨_, rfl⟩
  rw [hab] at hpa
  refine qi (E0 := [(0, _), (1, _)]) (N := 55) Tryz.func42 rfl rfl rfl rfl ?_
  refine qO <| qA rfl <| q9 (qQ rfl) <| q9 (qB rfl) <| q9 (qI rfl rfl) <| qA rfl <| y1 (xD (q := i) rfl rfl hM.d) ?_
  rintro _ _ ⟨od', hod', rfl⟩
  refine qF <| qN ?_
  obtain ⟨C1, hC1⟩ : ∃ C1, C1 = ((p, .cells (zO (zw n i none) ma md ms u).toArray 90 (0, 0)) :: (ma, oa) :: (md, od') :: (ms, os) :: C : qV) := ⟨_, rfl⟩
  have hn1 : NodeC p (zw n i none) C1 := ⟨ma, md, ms, oa, od', os, u, C, hC1, hM.a, hod', hM.s, hM.g⟩
  refine yy (wZ (L' := C1 :: G :: F) (by rw [hC1]; simp [zO, zw])) ?_
  refine qK <| qA rfl <| qA rfl <| q9 (wX rfl) <| qG (w5 rfl (we (C1) (VQ p (zw n i none) C1 hn1 (1, i) (by show n.gone.length ≤ _; omega)))) ?_
  rintro t15 _ ⟨rfl, C2, hn2, rfl⟩
  refine qT ?_
  obtain ⟨m, hm⟩ : ∃ m, j2 (zw n i none) (1, i) = m := ⟨_, rfl⟩
  have hok2 : NOk m := hm ▸ (hok.dataNone i).lose _
  have hgl2 : m.gone.length ≤ 900001 := by have := Wu (zw n i none) (1, i); rw [hm] at this; have e : (zw n i none).gone = n.gone := rfl; rw [e] at this; omega
  rw [hm] at hn2
  refine qJ <| qO <| qA rfl <| q9 (wM rfl (zk (G) (Zx i G hg (by omega)))) <| qG (qj) ?_
  rintro t4 _ ⟨b4, rfl, rfl⟩
  refine qR (qo (l := [Value.int .i64 0, Value.int .i64 0]) (vs := [.int .i64 ab.1, .int .i64 ab.2]) rfl (by rw [hab]; rfl) rfl rfl rfl) ?_
  refine qF <| qN ?_
  obtain ⟨ma, md, ms, oa, od, os, u, C, hM2, hC2⟩ := hn2.eq
  unfold zO at hC2
  obtain ⟨n0, hn0⟩ : ∃ n0, n0 = n := ⟨_, rfl⟩
  obtain ⟨n, hnm⟩ : ∃ n, n = m := ⟨_, rfl⟩
  rw [← hnm] at hC2 hM2 hok2 hgl2 hm
  refine yy (L' := [(b4, .cells [.int .i64 ab.1, .int .i64 ab.2].toArray 100 (0, 0))] :: [(p, .cells [.int .u32 n.num, .int .u32 n.ver, .int .i64 n.kind, .int .i64 n.size, .int .u32 n.time, .map (some ma), .map (some md), .map (some ms), u].toArray 90 (0, 0))] :: [(ma, oa)] :: [(md, od)] :: [(ms, os)] :: C :: [(0, .cells [Value.int .i64 2, Value.int .i64 0].toArray e0 f0)] :: [(1, .cells [Value.int .i64 4, Value.int .i64 0].toArray e1 f1)] :: [(2, .cells [Value.int .i64 3, Value.int .i64 0].toArray e2 f2)] :: F) (wZ (by rw [hC2, hG]; simp)) ?_
  refine wT wB <| wD [(18, .pure _), (19, .pure _), (20, .pure _), (21, .pure _), (22, .pure _)] (by kernel_rfl) rfl rfl rfl wm (qC rfl (fun X => qP rfl) <| qC rfl (fun X => qQ rfl) <| qC rfl (fun X => qB rfl) <| qC rfl (fun X => qI rfl rfl) <| qC rfl (fun X => wW rfl) <| ParH.nil rfl) ?_
  dsimp only [ze, List.drop, List.length]
  refine zi (by kernel_rfl) (zL (q := (2, 0)) (v := (1 : Int)) rfl rfl rfl hM2.s) ?_
  rintro _ _ ⟨os', hos', rfl⟩
  refine wI ?_
  have hM3 : Ku (setStale n (2, 0)) oa od os' u C := ⟨hM2.a, hM2.d, hos', hM2.g⟩
  have hok3 := hok2.setStale (k := (2, 0)) (.inr (.inl rfl))
  refine qJ <| qN <| qO <| q9 (wW rfl) <| q9 (wW rfl) <| q9 (Wt rfl rfl) <| qF <| qM rfl (fun hc4 => ?_) (fun hc4 => ?_)
  ·
   refine yy (L' := (((p, .cells (zO (setStale n (2, 0)) ma md ms u).toArray 90 (0, 0)) :: (ma, oa) :: (md, od) :: (ms, os') :: C : qV) :: G :: F)) (fun w hw => wZ (by rw [hG]; simp [zO, setStale]) w hw.tail) ?_
   refine qy <| qv <| kA (((p, .cells (zO (setStale n (2, 0)) ma md ms u).toArray 90 (0, 0)) :: (ma, oa) :: (md, od) :: (ms, os') :: C : qV) :: G :: F) (.inl rfl) rfl  ?_
   have e1 : ab = (2, 0) := by simpa [Prod.ext_iff] using hc4
   refine ⟨rfl, ((p, .cells (zO (setStale n (2, 0)) ma md ms u).toArray 90 (0, 0)) :: (ma, oa) :: (md, od) :: (ms, os') :: C : qV), ?_, rfl⟩
   rw [← hn0, show jr n0 i = setStale n (2, 0) from by unfold jr; rw [hab, if_pos e1, hn0, hm]]
   exact ⟨ma, md, ms, oa, od, os', u, C, rfl, hM3.a, hM3.d, hM3.s, hM3.g⟩
  ·
   refine qZ <| qJ <| qN <| wT wB <| wD [(26, .pure _), (27, .pure _), (28, .pure _), (29, .pure _), (30, .pure _)] (by kernel_rfl) rfl rfl rfl wm (qC rfl (fun X => qP rfl) <| qC rfl (fun X => qQ rfl) <| qC rfl (fun X => qB rfl) <| qC rfl (fun X => qI rfl rfl) <| qC rfl (fun X => wW rfl) <| ParH.nil rfl) ?_
   dsimp only [ze, List.drop, List.length]
   refine zi (by kernel_rfl) (zL (q := ab) (v := (1 : Int)) rfl rfl rfl hM3.s) ?_
   rintro _ _ ⟨os4, hos4, rfl⟩
   refine wI <| qJ <| zY (Γ := {pΓ : (NS) × (qV) // (fun (m4 : NS) (C4 : qV) => NodeC p m4 C4 ∧ m4 = (if ab.1 = 5 then setStale (setStale (setStale n (2, 0)) ab) (4, 0) else setStale (setStale n (2, 0)) ab) ∧ NOk m4 ∧ m4.gone.length ≤ 900001) pΓ.1 pΓ.2}) (fun g => (fun (m4 : NS) (C4 : qV) => [(0, .pointer (some ⟨p, 0, none⟩)), (4, .pointer (some ⟨b4, 0, none⟩))]) g.1.1 g.1.2) (fun g => (fun (m4 : NS) (C4 : qV) => [(b4, .cells [.int .i64 ab.1, .int .i64 ab.2].toArray 100 (0, 0))] :: C4 :: G :: F) g.1.1 g.1.2) ?_ ?_
   ·
    refine qO <| q9 (qB rfl) <| q9 (qI rfl rfl) <| q9 (wn rfl rfl) <| qF <| qM rfl (fun hc6 => ?_) (fun hc6 => ?_)
    ·
     refine wT wB <| wD [(34, .pure _), (35, .pure _), (36, .pure _), (37, .pure _), (38, .pure _)] (by kernel_rfl) rfl rfl rfl wm (qC rfl (fun X => qP rfl) <| qC rfl (fun X => qQ rfl) <| qC rfl (fun X => qB rfl) <| qC rfl (fun X => qI rfl rfl) <| qC rfl (fun X => wW rfl) <| ParH.nil rfl) ?_
     dsimp only [ze, List.drop, List.length]
     refine zi (by kernel_rfl) (zL (q := (4, 0)) (v := (1 : Int)) rfl rfl rfl hos4) ?_
     rintro _ _ ⟨os5, hos5, rfl⟩
     refine wI <| qW ⟨(setStale (setStale (setStale n (2, 0)) ab) (4, 0), ((p, .cells (zO (setStale n (2, 0)) ma md ms u).toArray 90 (0, 0)) :: (ma, oa) :: (md, od) :: (ms, os5) :: C : qV)), ?_⟩ ?_
     · (try dsimp only); exact ⟨⟨ma, md, ms, oa, od, os5, u, C, rfl, hM3.a, hM3.d, hos5, hM3.g⟩, by rw [if_pos hc6], (hok3.setStale hpa).setStale (.inr (.inr (.inr (.inl rfl)))), hgl2⟩
     · (try dsimp only); exact wZ (by rw [hG]; simp [zO, setStale])
    ·
     refine qZ <| qW ⟨(setStale (setStale n (2, 0)) ab, ((p, .cells (zO (setStale n (2, 0)) ma md ms u).toArray 90 (0, 0)) :: (ma, oa) :: (md, od) :: (ms, os4) :: C : qV)), ?_⟩ ?_
     · (try dsimp only); exact ⟨⟨ma, md, ms, oa, od, os4, u, C, rfl, hM3.a, hM3.d, hos4, hM3.g⟩, by rw [if_neg hc6], (hok3.setStale hpa), hgl2⟩
     · (try dsimp only); exact wZ (by rw [hG]; simp [zO, setStale])
   rintro ⟨⟨m4, C4⟩, hcut⟩
   replace hcut : NodeC p m4 C4 ∧ m4 = (if ab.1 = 5 then setStale (setStale (setStale n (2, 0)) ab) (4, 0) else setStale (setStale n (2, 0)) ab) ∧ NOk m4 ∧ m4.gone.length ≤ 900001 := hcut
   obtain ⟨hn4, hm4, hok4, hgl4⟩ := hcut
   show Tr _ _ _ ([(0, .pointer (some ⟨p, 0, none⟩)), (4, .pointer (some ⟨b4, 0, none⟩))]) ([(b4, .cells [.int .i64 ab.1, .int .i64 ab.2].toArray 100 (0, 0))] :: C4 :: G :: F) _ _
   refine qN <| yy (L' := [(b4, .cells [.int .i64 ab.1, .int .i64 ab.2].toArray 100 (0, 0))] :: [(0, .cells [Value.int .i64 2, Value.int .i64 0].toArray e0 f0)] :: [(1, .cells [Value.int .i64 4, Value.int .i64 0].toArray e1 f1)] :: [(2, .cells [Value.int .i64 3, Value.int .i64 0].toArray e2 f2)] :: C4 :: F) (by rw [hG]; exact (yj (by intro f; simp only [List.flatten_cons, List.flatten_nil, List.append_nil, List.countP_append, List.countP_cons, List.countP_nil]; omega))) ?_
   refine qK <| q9 (wW rfl) <| q9 (wW rfl) <| qG (wK rfl rfl rfl) ?_
   rintro t41 _ ⟨b41, rfl, rfl⟩
   refine q9 (w8 rfl) <| qA rfl <| qT <| zN (L' := [(b41, .cells [.int .i64 ab.1, .int .i64 ab.2, .int .i64 4, .int .i64 0].toArray 100 (0, 0))] :: [(0, .cells [Value.int .i64 2, Value.int .i64 0].toArray e0 f0)] :: [(1, .cells [Value.int .i64 4, Value.int .i64 0].toArray e1 f1)] :: [(2, .cells [Value.int .i64 3, Value.int .i64 0].toArray e2 f2)] :: C4 :: F) (qX _) <| zN (L' := [(b41, .cells [.int .i64 ab.1, .int .i64 ab.2, .int .i64 4, .int .i64 0].toArray 100 (0, 0))] :: C4 :: G :: F) (by rw [hG]; exact (yj (by intro f; simp only [List.flatten_cons, List.flatten_nil, List.append_nil, List.countP_append, List.countP_cons, List.countP_nil]; omega))) ?_
   refine zN (L' := [(b41, .cells (([ab, (4, 0)] : List (Int × Int)).flatMap zK ++ []).toArray 100 (0, 0))] :: C4 :: G :: F) (fun _ h => h) ?_
   refine qJ <| qg <| wS (Γ := {pΓ : (Nat) × (NS) × (qV) // (fun (j : Nat) (m : NS) (Cm : qV) => j ≤ 2 ∧ NodeC p m Cm ∧ NOk m ∧ m.gone.length ≤ 900001 + j ∧ (([ab, (4, 0)] : List (Int × Int)).drop j).foldl loseIf m = ([ab, (4, 0)] : List (Int × Int)).foldl loseIf m4) pΓ.1 pΓ.2.1 pΓ.2.2}) (fun g => (fun (j : Nat) (m : NS) (Cm : qV) => [(0, .pointer (some ⟨p, 0, none⟩)), (41, .slice (some ⟨b41, 0, none⟩) 2 2), (42, .int .i64 2), (43, .int .i64 j)]) g.1.1 g.1.2.1 g.1.2.2) (fun g => (fun (j : Nat) (m : NS) (Cm : qV) => [(b41, .cells (([ab, (4, 0)] : List (Int × Int)).flatMap zK ++ []).toArray 100 (0, 0))] :: Cm :: G :: F) g.1.1 g.1.2.1 g.1.2.2) (fun g => (fun (j : Nat) (m : NS) (Cm : qV) => 2 - j) g.1.1 g.1.2.1 g.1.2.2) ⟨(0, m4, C4), by dsimp only; exact ⟨by omega, hn4, hok4, by omega, rfl⟩⟩ (qX _) ?_
   rintro ⟨⟨j, m, Cm⟩, hloop⟩
   replace hloop : j ≤ 2 ∧ NodeC p m Cm ∧ NOk m ∧ m.gone.length ≤ 900001 + j ∧ (([ab, (4, 0)] : List (Int × Int)).drop j).foldl loseIf m = ([ab, (4, 0)] : List (Int × Int)).foldl loseIf m4 := hloop
   obtain ⟨hj, hnm', hokm, hglm, hfold⟩ := hloop
   show Tr _ _ _ ([(0, .pointer (some ⟨p, 0, none⟩)), (41, .slice (some ⟨b41, 0, none⟩) 2 2), (42, .int .i64 2), (43, .int .i64 j)]) ([(b41, .cells (([ab, (4, 0)] : List (Int × Int)).flatMap zK ++ []).toArray 100 (0, 0))] :: Cm :: G :: F) _ _
   refine qO <| q9 (wJ rfl rfl) <| qF <| qN <| qM rfl (fun hc9 => ?_) (fun hc9 => ?_)
   ·
    refine qZ <| qJ <| qN <| qg <| qN ?_
    obtain ⟨q, hq⟩ : ∃ q, ([ab, (4, 0)] : List (Int × Int))[j]? = some q := ⟨_, List.getElem?_eq_getElem (by simp; omega)⟩
    rw [kJ hq, List.foldl_cons] at hfold
    refine qK <| q9 (qx (j := j) (off := j * 2) rfl rfl rfl (by omega) (by simp)) ?_
    refine q9 (zC (j := j) y9 rfl hq rfl) <| qG (qj) ?_
    rintro t6 _ ⟨b6, rfl, rfl⟩
    refine qR (qo (l := [Value.int .i64 0, Value.int .i64 0]) (vs := [.int .i64 q.1, .int .i64 q.2]) rfl rfl rfl rfl rfl) <| qm <| qA rfl <| q9 (wW rfl) <| q9 (wM rfl (k6 (Cm) (G) (Yg H p m Cm G hnm' hg hokm q))) <| q9 (kX rfl) <| qF <| yB rfl (fun hc11 => ?_) (fun hc11 => ?_)
    ·
     refine qK <| qA rfl <| q9 (wW rfl) <| qG (w5 rfl (we (Cm) (VQ p m Cm hnm' q (by omega)))) ?_
     rintro t53 _ ⟨rfl, Cm', hn', rfl⟩
     refine qT <| qe <| qJ <| qK <| q9 (w9 rfl rfl (by omega)) <| qA rfl <| qT <| w6 ⟨(j + 1, j2 m q, Cm'), ?_⟩ ?_ ?_
     ·
      try dsimp only
      have hk : WR m q = false := by simpa using hc11
      have hl : loseIf m q = j2 m q := by unfold loseIf; rw [hk]; rfl
      rw [hl] at hfold
      exact ⟨by omega, hn', hokm.lose q, by have := Wu m q; omega, hfold⟩
     · (try dsimp only); omega
     · (try dsimp only); exact qX _
    ·
     refine qZ <| qe <| qJ <| qK <| q9 (w9 rfl rfl (by omega)) <| qA rfl <| qT <| w6 ⟨(j + 1, m, Cm), ?_⟩ ?_ ?_
     ·
      try dsimp only
      have hk : WR m q = true := by simpa using hc11
      have hl : loseIf m q = m := by unfold loseIf; rw [hk]; rfl
      rw [hl] at hfold
      exact ⟨by omega, hnm', hokm, by omega, hfold⟩
     · (try dsimp only); omega
     · (try dsimp only); exact qX _
   ·
    refine wa <| qr <| qt <| qh <| kA (Cm :: G :: F) (.inr rfl) rfl  ?_
    have hj2 : j = 2 := by omega
    subst hj2
    have e1 : ¬ ab = (2, 0) := by simpa [Prod.ext_iff] using hc4
    exact ⟨rfl, Cm, by rw [← hn0, show jr n0 i = m from by unfold jr; rw [hab, if_neg e1, hn0, hm, ← hm4]; exact hfold.symm]; exact hnm', rfl⟩
theorem Y2 (n : Nat) : IsB (List.replicate n 0) := fun b hb => by rw [List.mem_replicate] at hb; omega
def _root_.Go.Nd.Sec.clr (s : Sec) (k : Nat) : Sec := yC s k (List.replicate (128 - k) 0)
theorem zeroCells_u8 (n : Nat) : (Builtin.zeroCells #[Value.int .u8 0] n).toList = u8s (List.replicate n 0) := by
  apply List.ext_getElem
  · simp [Builtin.zeroCells]
  · intro i h1 h2
    simp [Builtin.zeroCells, u8s, Nat.mod_one]
theorem clr_sec (s : Sec) (k : Nat) (h : k < 128) : (wt s).take k ++ (Builtin.zeroCells #[Value.int .u8 0] (128 - k)).toList ++ (wt s).drop (k + (128 - k) * 1) = wt (s.clr k) := by
  rw [zeroCells_u8]
  have := VH s k (List.replicate (128 - k) 0) (by simp; omega) (Y2 _)
  unfold Go.Nd.Sec.clr
  rw [js (by simp; omega) (Y2 _), ← this]
  simp
theorem NOk.hole {n : NS} (h : NOk n) {i : Int} (hi : 0 ≤ i ∧ i < 1064) : NOk (jr n i) := by
  have h2 : NOk (Proofs.YtjikpomndbkfgaaGreatDoor.setStale (j2 (zw n i none) (1, i)) (2, 0)) := ((h.dataNone i).lose _).setStale (.inr (.inl rfl))
  unfold jr
  split
  · exact h2
  · simp only [List.foldl_cons, List.foldl_nil]
    refine NOk.loseIf (NOk.loseIf ?_ _) _
    split
    · exact (h2.setStale (Q9 hi)).setStale (.inr (.inr (.inr (.inl rfl))))
    · exact h2.setStale (Q9 hi)
theorem hole_gone (n : NS) (i : Int) : (jr n i).gone.length ≤ n.gone.length + 3 := by
  have h1 : ∀ m k, (setStale m k).gone = m.gone := fun _ _ => rfl
  have h2 := Wu (zw n i none) (1, i)
  have h3 : (zw n i none).gone = n.gone := rfl
  rw [h3] at h2
  unfold jr
  split
  · rw [h1]; omega
  · simp only [List.foldl_cons, List.foldl_nil]
    split
    · have a := QK (setStale (setStale (setStale (j2 (zw n i none) (1, i)) (2, 0)) (ww i)) (4, 0)) (ww i)
      have b := QK (loseIf (setStale (setStale (setStale (j2 (zw n i none) (1, i)) (2, 0)) (ww i)) (4, 0)) (ww i)) (4, 0)
      simp only [h1] at a; omega
    · have a := QK (setStale (setStale (j2 (zw n i none) (1, i)) (2, 0)) (ww i)) (ww i)
      have b := QK (loseIf (setStale (setStale (j2 (zw n i none) (1, i)) (2, 0)) (ww i)) (ww i)) (4, 0)
      simp only [h1] at a; omega
def jF (n : NS) (g : Int → Option Sec) (size : Int) : Option NS :=
  if size < n.size ∧ size % 128 ≠ 0 ∧ x8 n (zW size - 1) then (blk n g (zW size - 1)).map (fun s => zw n (zW size - 1) (some (s.clr (size % 128).toNat))) else some n
def xw (n : NS) (size : Int) : NS := (jd n).foldl (fun m i => if zW size - 1 < i then jr m i else m) n
def xx (n : NS) (size : Int) : NS := if n.size ≠ size then { setStale n (2, 0) with size := size } else n
def j8 (n : NS) (g : Int → Option Sec) (size : Int) : Int × NS :=
  if size < 0 then (1, n) else if 136192 < size then (12, n) else
  match jF n g size with
  | none => (20, n)
  | some m => (0, xx (xw m size) size)
theorem YN {s : Int} (h : 0 ≤ s ∧ s ≤ 136192) : -1 ≤ zW s - 1 ∧ zW s - 1 < 1064 := by unfold zW; split <;> omega
theorem blocks_mod {s : Int} (h : 0 ≤ s) (h2 : s % 128 ≠ 0) : 0 ≤ zW s - 1 := by unfold zW; split <;> omega
theorem truncate_ok (H : jL w0) (p : Nat) (n : NS) (Cn D G : qV) (hn : NodeC p n Cn) (hg : kj G) (hok : NOk n) (size : Int) (rv : Value) (g : Int → Option Sec) (hr : Ks rv D g)
    (hsz : -9223372036854775808 ≤ size ∧ size ≤ 9223372036854775807) (hgl : n.gone.length ≤ 800000) :
    FnT Tryz.prog w0 13 #[.pointer (some ⟨p, 0, none⟩), .int .i64 size, rv] (Cn :: D :: G :: F)
      (fun v L' => ∃ Cn', v = .int .i64 (j8 n g size).1 ∧ NodeC p (j8 n g size).2 Cn' ∧ L' = Cn' :: D :: G :: F) := by
  obtain ⟨e0, f0, e1, f1, e2, f2, hG⟩ := id hg
  obtain ⟨ma, md, ms, oa, od, os, u, C, hM, hCn⟩ := hn.eq
  unfold zO at hCn
  refine qi (E0 := [(0, _), (1, _), (2, _)]) (N := 86) Tryz.func13 rfl rfl rfl rfl ?_
  refine qO <| qE rfl <| qF <| qN <| qg <| qO <| qA rfl <| q9 (wJ rfl rfl) <| qE rfl <| qF <| qM rfl (fun hc1 => ?_) (fun hc1 => ?_)
  ·
   refine qO <| qE rfl <| qF <| qy <| wH <| qv <| wC (Cn :: D :: G :: F) (.inl rfl) rfl (qu rfl) ?_
   exact ⟨Cn, by unfold j8; rw [if_pos hc1], by unfold j8; rw [if_pos hc1]; exact hn, rfl⟩
  ·
   refine qO <| qA rfl <| q9 (y8 rfl rfl) <| qE rfl <| qF <| qM rfl (fun hc3 => ?_) (fun hc3 => ?_)
   ·
    refine qO <| qE rfl <| qF <| qy <| wH <| qv <| wC (Cn :: D :: G :: F) (.inl rfl) rfl (qu rfl) ?_
    exact ⟨Cn, by unfold j8; rw [if_neg hc1, if_pos hc3], by unfold j8; rw [if_neg hc1, if_pos hc3]; exact hn, rfl⟩
   ·
    refine qZ <| qe <| qJ <| qN ?_
    have hbd := YN (s := size) (by omega)
    obtain ⟨last, hlast⟩ : ∃ last, zW size - 1 = last := ⟨_, rfl⟩
    refine qK <| qA rfl <| q9 (wM rfl (blocks_spec size hsz.2)) <| q9 (zt rfl rfl (by omega)) <| qE rfl <| qT ?_
    rw [hlast] at hbd ⊢
    refine qJ <| zY (Γ := {pΓ : (NS) × (qV) // (fun (n1 : NS) (C1 : qV) => NodeC p n1 C1 ∧ NOk n1 ∧ n1.gone.length ≤ 800000 ∧ jF n g size = some n1) pΓ.1 pΓ.2}) (fun g => (fun (n1 : NS) (C1 : qV) => [(0, .pointer (some ⟨p, 0, none⟩)), (1, .int .i64 size), (2, rv), (7, .int .i64 last)]) g.1.1 g.1.2) (fun g => (fun (n1 : NS) (C1 : qV) => C1 :: D :: G :: F) g.1.1 g.1.2) ?_ ?_
    ·
     refine qO <| qA rfl <| q9 (jz rfl rfl (by omega) (by omega)) <| qE rfl <| qF <| zY (Γ := {pΓ : (Bool) // (fun (b : Bool) => b = true ↔ (size < n.size ∧ size % 128 ≠ 0 ∧ x8 n last)) pΓ}) (fun g => (fun (b : Bool) => [(0, .pointer (some ⟨p, 0, none⟩)), (1, .int .i64 size), (2, rv), (7, .int .i64 last), (8, .int .i64 (size % 128)), (38, .bool b)]) g.1) (fun g => (fun (b : Bool) => Cn :: D :: G :: F) g.1) ?_ ?_
     ·
      refine yy (wZ (L' := [(p, .cells [.int .u32 n.num, .int .u32 n.ver, .int .i64 n.kind, .int .i64 n.size, .int .u32 n.time, .map (some ma), .map (some md), .map (some ms), u].toArray 90 (0, 0))] :: [(ma, oa)] :: [(md, od)] :: [(ms, os)] :: C :: D :: G :: F) (by rw [hCn]; simp)) ?_
      refine qK <| qA rfl <| qA rfl <| q9 (qQ rfl) <| q9 (qB rfl) <| q9 (qI rfl rfl) <| q9 (wJ rfl rfl) <| qA rfl <| qY (s := 30) rfl (fun hg7_6 => ?_) (fun hg7_6 => ?_)
      ·
       refine qD rfl rfl (qP rfl) <| qD rfl rfl (zE rfl rfl) <| q9 (qq rfl rfl) <| qA rfl <| qY (s := 34) rfl (fun hg7_10 => ?_) (fun hg7_10 => ?_)
       ·
        refine qD rfl rfl (qP rfl) <| qD rfl rfl (qP rfl) <| qD rfl rfl (wM rfl (Qu (L1 := Cn :: D :: G :: F) (has_spec p n Cn hn last) (by rw [hCn]; simp))) ?_
        refine q9 (qq rfl rfl) <| qT <| qW ⟨_, ?_⟩ ?_
        · (try dsimp only); first | exact ⟨fun h => ⟨by omega, by omega, of_decide_eq_true (p := x8 n last) h⟩, fun h => decide_eq_true (p := x8 n last) h.2.2⟩ | exact ⟨fun h => (by cases h), fun h => (by omega)⟩
        · (try dsimp only); exact wZ (by rw [hCn]; simp)
       ·
        refine qL rfl rfl rfl <| qL rfl rfl rfl <| qL rfl rfl rfl <| q9 (qU rfl rfl) <| qT <| qW ⟨_, ?_⟩ ?_
        · (try dsimp only); first | exact ⟨fun h => ⟨by omega, by omega, of_decide_eq_true (p := x8 n last) h⟩, fun h => decide_eq_true (p := x8 n last) h.2.2⟩ | exact ⟨fun h => (by cases h), fun h => (by omega)⟩
        · (try dsimp only); exact wZ (by rw [hCn]; simp)
      ·
       refine qL rfl rfl rfl <| qL rfl rfl rfl <| q9 (qU rfl rfl) <| qA rfl <| qL rfl rfl rfl <| qL rfl rfl rfl <| qL rfl rfl rfl <| q9 (qU rfl rfl) <| qT <| qW ⟨_, ?_⟩ ?_
       · (try dsimp only); first | exact ⟨fun h => ⟨by omega, by omega, of_decide_eq_true (p := x8 n last) h⟩, fun h => decide_eq_true (p := x8 n last) h.2.2⟩ | exact ⟨fun h => (by cases h), fun h => (by omega)⟩
       · (try dsimp only); exact wZ (by rw [hCn]; simp)
     rintro ⟨b, hcut⟩
     replace hcut : b = true ↔ (size < n.size ∧ size % 128 ≠ 0 ∧ x8 n last) := hcut
     have hb := hcut
     show Tr _ _ _ ([(0, .pointer (some ⟨p, 0, none⟩)), (1, .int .i64 size), (2, rv), (7, .int .i64 last), (8, .int .i64 (size % 128)), (38, .bool b)]) (Cn :: D :: G :: F) _ _
     refine yB rfl (fun hc6 => ?_) (fun hc6 => ?_)
     ·
      have hc := hb.1 hc6
      have hl0 : 0 ≤ last := hlast ▸ blocks_mod (by omega) hc.2.1
      have hT : jF n g size = (blk n g last).map (fun s => zw n last (some (s.clr (size % 128).toNat))) := by unfold jF; rw [hlast, if_pos hc]
      refine qO <| qA rfl <| qA rfl <| qA rfl <| q9 (wM rfl (k6 (Cn) (D) (Kj p n Cn D hn last rv g hr))) <| qA rfl <| q9 (qf rfl rfl) <| q9 (qf rfl rfl) <| qG (qj) ?_
      rintro t9 _ ⟨b9, rfl, rfl⟩
      refine qR (qo rfl rfl (by simp) (by simp) (wl _)) ?_
      refine qE rfl <| qF <| qN <| qO <| qA rfl <| q9 (zE rfl rfl) <| qF <| qM rfl (fun hc9 => ?_) (fun hc9 => ?_)
      ·
       have hbk : blk n g last = none := by
         cases h : blk n g last with
         | none => rfl
         | some s => rw [h] at hc9; exact absurd rfl hc9
       refine qO <| qA rfl <| qE rfl <| qF <| qy <| qv <| k3 <| wC (Cn :: D :: G :: F) (.inl rfl) rfl (qu rfl) <| ⟨Cn, ?_, ?_, rfl⟩ <;> unfold j8 <;> rw [if_neg hc1, if_neg hc3, hT, hbk] <;> first | rfl | exact hn
      ·
       obtain ⟨s, hbk⟩ : ∃ s, blk n g last = some s := by
         cases h : blk n g last with
         | none => rw [h] at hc9; exact absurd (by decide) hc9
         | some s => exact ⟨s, rfl⟩
       rw [hbk]
       obtain ⟨k, hk⟩ : ∃ k : Nat, size % 128 = k := ⟨(size % 128).toNat, by omega⟩
       rw [hk, Int.toNat_natCast] at hT
       refine qZ <| qJ <| qO <| qA rfl <| q9 (kW (l := k) (h := 128) (kl := .i64) (kh := .i64) rfl (by rw [← hk]; rfl) rfl (by omega) (by omega)) ?_
       refine qR (op_clear (b := b9) (off := k) (n := 128 - k) (c := 128 - k) (z := .int .u8 0) (sz := 1) (r := wt (s.clr k)) (by rw [← ZE k 128 (by omega)]; rfl) (by omega) (by simp [Value.cells, Value.oneCell']) rfl (by simp; omega) (clr_sec s k (by omega))) ?_
       refine qF <| yy (L' := [(b9, .cells (wt (s.clr k)).toArray 55 (0, 0))] :: [(p, .cells [.int .u32 n.num, .int .u32 n.ver, .int .i64 n.kind, .int .i64 n.size, .int .u32 n.time, .map (some ma), .map (some md), .map (some ms), u].toArray 90 (0, 0))] :: [(ma, oa)] :: [(md, od)] :: [(ms, os)] :: C :: D :: G :: F) (wZ (by rw [hCn]; simp)) ?_
       refine wT wB <| wD [(51, .pure _), (52, .pure _), (53, .pure _), (54, .pure _), (55, .pure _), (56, .pure _)] (by kernel_rfl) rfl rfl rfl wm (qC rfl (fun X => qP rfl) <| qC rfl (fun X => qQ rfl) <| qC rfl (fun X => qB rfl) <| qC rfl (fun X => qI rfl rfl) <| qC rfl (fun X => qP rfl) <| qC rfl (fun X => wQ rfl (by first | exact zZ _ | simp)) <| ParH.nil rfl) ?_
       dsimp only [ze, List.drop, List.length]
       refine zi (by kernel_rfl) (zL (q := last) (v := s.clr k) rfl rfl rfl hM.d) ?_
       rintro _ _ ⟨od', hod', rfl⟩
       refine wI <| qW ⟨(zw n last (some (s.clr k)), ((p, .cells (zO n ma md ms u).toArray 90 (0, 0)) :: (ma, oa) :: (md, od') :: (ms, os) :: C : qV)), ?_⟩ ?_
       · (try dsimp only); exact ⟨⟨ma, md, ms, oa, od', os, u, C, rfl, hM.a, hod', hM.s, hM.g⟩, hok.dataSome (by omega) _, hgl, by rw [hT, hbk]; rfl⟩
       · (try dsimp only); exact (fun w hw => wZ (by simp [zO]) w hw.tail)
     ·
      refine qZ <| qW ⟨(n, Cn), ?_⟩ ?_
      · (try dsimp only); exact ⟨hn, hok, hgl, by unfold jF; rw [hlast, if_neg (fun h => by rw [hb.2 h] at hc6; cases hc6)]⟩
      · (try dsimp only); exact qX _
    rintro ⟨⟨n1, C1⟩, hcut⟩
    replace hcut : NodeC p n1 C1 ∧ NOk n1 ∧ n1.gone.length ≤ 800000 ∧ jF n g size = some n1 := hcut
    obtain ⟨hn1, hok1, hgl1, hfirst⟩ := hcut
    show Tr _ _ _ ([(0, .pointer (some ⟨p, 0, none⟩)), (1, .int .i64 size), (2, rv), (7, .int .i64 last)]) (C1 :: D :: G :: F) _ _
    refine qN <| qN ?_
    obtain ⟨l, hl⟩ : ∃ l, jd n1 = l := ⟨_, rfl⟩
    have hll := Zf n1
    have hlr : ∀ x ∈ l, 0 ≤ x ∧ x < 1064 := fun x hx => Yt (hl ▸ hx)
    rw [hl] at hll
    refine qK <| qA rfl <| qG (w5 rfl (we (C1) (WA H p n1 C1 hn1 hok1))) ?_
    rintro t58 _ ⟨C', hs, rfl⟩
    rw [hl] at hs
    obtain ⟨px, cx, rfl⟩ := hs.slice
    refine q9 (w8 rfl) <| qA rfl <| qF <| qg <| wS (Γ := {pΓ : (Nat) × (NS) × (qV) // (fun (i : Nat) (m : NS) (Cm : qV) => i ≤ l.length ∧ NodeC p m Cm ∧ NOk m ∧ m.gone.length ≤ 800000 + 3 * i ∧ (l.drop i).foldl (fun m i => if last < i then jr m i else m) m = l.foldl (fun m i => if last < i then jr m i else m) n1) pΓ.1 pΓ.2.1 pΓ.2.2}) (fun g => (fun (i : Nat) (m : NS) (Cm : qV) => [(0, .pointer (some ⟨p, 0, none⟩)), (1, .int .i64 size), (7, .int .i64 last), (58, .slice px l.length cx), (59, .int .i64 l.length), (60, .int .i64 i)]) g.1.1 g.1.2.1 g.1.2.2) (fun g => (fun (i : Nat) (m : NS) (Cm : qV) => C' :: Cm :: D :: G :: F) g.1.1 g.1.2.1 g.1.2.2) (fun g => (fun (i : Nat) (m : NS) (Cm : qV) => l.length - i) g.1.1 g.1.2.1 g.1.2.2) ⟨(0, n1, C1), by dsimp only; exact ⟨by omega, hn1, hok1, by omega, rfl⟩⟩ (qX _) ?_
    rintro ⟨⟨i, m, Cm⟩, hloop⟩
    replace hloop : i ≤ l.length ∧ NodeC p m Cm ∧ NOk m ∧ m.gone.length ≤ 800000 + 3 * i ∧ (l.drop i).foldl (fun m i => if last < i then jr m i else m) m = l.foldl (fun m i => if last < i then jr m i else m) n1 := hloop
    obtain ⟨hi, hnm, hokm, hglm, hfold⟩ := hloop
    show Tr _ _ _ ([(0, .pointer (some ⟨p, 0, none⟩)), (1, .int .i64 size), (7, .int .i64 last), (58, .slice px l.length cx), (59, .int .i64 l.length), (60, .int .i64 i)]) (C' :: Cm :: D :: G :: F) _ _
    refine qO <| q9 (wJ rfl rfl) <| qF <| qN <| qM rfl (fun hc14 => ?_) (fun hc14 => ?_)
    ·
     refine qZ <| qJ <| qN <| qg <| qN ?_
     obtain ⟨q, hq⟩ : ∃ q, l[i]? = some q := ⟨_, List.getElem?_eq_getElem (by omega)⟩
     have hqr := hlr q (List.mem_of_getElem? hq)
     rw [kJ hq, List.foldl_cons] at hfold
     refine qK <| qG (yD (j := i) rfl rfl hs (by omega) (by omega)) ?_
     rintro t62 _ ⟨b, cap, spare, hqc, rfl, hcap, hnc, rfl, rfl⟩
     refine q9 (qI rfl (show wY _ _ = some (.int .i64 q) by rw [zB, Nat.mul_one, List.getElem?_append_left (by simp [iV]; omega)]; simp [iV, hq])) ?_
     refine qE rfl <| qm <| qA rfl <| qA rfl <| q9 (y8 rfl rfl) <| qF <| qM rfl (fun hc16 => ?_) (fun hc16 => ?_)
     ·
      refine qK <| qA rfl <| qA rfl <| qG (w5 rfl (kG (Cm) (G) (hole_ok H p m Cm G hnm hg hokm q hqr (by omega)))) ?_
      rintro t69 _ ⟨rfl, Cm', hn', rfl⟩
      refine qT <| qe <| qJ <| qK <| q9 (w9 rfl rfl (by omega)) <| qA rfl <| qT <| w6 ⟨(i + 1, jr m q, Cm'), ?_⟩ ?_ ?_
      · (try dsimp only); rw [if_pos hc16] at hfold; exact ⟨by omega, hn', hokm.hole hqr, by have := hole_gone m q; omega, hfold⟩
      · (try dsimp only); omega
      · (try dsimp only); exact qX _
     ·
      refine qZ <| qe <| qJ <| qK <| q9 (w9 rfl rfl (by omega)) <| qA rfl <| qT <| w6 ⟨(i + 1, m, Cm), ?_⟩ ?_ ?_
      · (try dsimp only); rw [if_neg hc16] at hfold; exact ⟨by omega, hnm, hokm, by omega, hfold⟩
      · (try dsimp only); omega
      · (try dsimp only); exact qX _
    ·
     refine wa <| qr <| qt <| qh <| qJ <| zY (Γ := {pΓ : (qV) // (fun (Cm' : qV) => NodeC p (j8 n g size).2 Cm' ∧ (j8 n g size).1 = 0) pΓ}) (fun g => (fun (Cm' : qV) => []) g.1) (fun g => (fun (Cm' : qV) => Cm' :: D :: G :: F) g.1) ?_ ?_
     ·
      refine qN ?_
      rw [List.drop_of_length_le (by omega)] at hfold
      have hm2 : xw n1 size = m := by unfold xw; rw [hlast, hl]; exact hfold.symm
      have hT2 : j8 n g size = (0, xx m size) := by unfold j8; rw [if_neg hc1, if_neg hc3, hfirst]; dsimp only; rw [hm2]
      obtain ⟨ma, md, ms, oa, od, os, u, C, hMm, hCm⟩ := hnm.eq
      unfold zO at hCm
      obtain ⟨n0, hn0⟩ : ∃ n0, n0 = n := ⟨_, rfl⟩
      rw [← hn0] at hT2 ⊢
      obtain ⟨n, hnm'⟩ : ∃ n, n = m := ⟨_, rfl⟩
      rw [← hnm'] at hCm hMm hT2 hnm
      refine yy (L' := [(p, .cells [.int .u32 n.num, .int .u32 n.ver, .int .i64 n.kind, .int .i64 n.size, .int .u32 n.time, .map (some ma), .map (some md), .map (some ms), u].toArray 90 (0, 0))] :: [(ma, oa)] :: [(md, od)] :: [(ms, os)] :: C :: [(0, .cells [Value.int .i64 2, Value.int .i64 0].toArray e0 f0)] :: [(1, .cells [Value.int .i64 4, Value.int .i64 0].toArray e1 f1)] :: [(2, .cells [Value.int .i64 3, Value.int .i64 0].toArray e2 f2)] :: D :: F) (fun w hw => ((by rw [hCm, hG]; exact (yj (by intro f; simp only [List.flatten_cons, List.flatten_nil, List.append_nil, List.countP_append, List.countP_cons, List.countP_nil]; omega))) : ∀ w, Own w0 (Cm :: D :: G :: F) w → Own w0 ([(p, .cells [.int .u32 n.num, .int .u32 n.ver, .int .i64 n.kind, .int .i64 n.size, .int .u32 n.time, .map (some ma), .map (some md), .map (some ms), u].toArray 90 (0, 0))] :: [(ma, oa)] :: [(md, od)] :: [(ms, os)] :: C :: [(0, .cells [Value.int .i64 2, Value.int .i64 0].toArray e0 f0)] :: [(1, .cells [Value.int .i64 4, Value.int .i64 0].toArray e1 f1)] :: [(2, .cells [Value.int .i64 3, Value.int .i64 0].toArray e2 f2)] :: D :: F) w) w hw.tail) ?_
      refine qK <| qA rfl <| q9 (qQ rfl) <| q9 (qB rfl) <| q9 (qI rfl rfl) <| qA rfl <| q9 (zE rfl rfl) <| qF <| qM rfl (fun hc19 => ?_) (fun hc19 => ?_)
      ·
       refine qO <| qA rfl <| qA rfl <| q9 (qQ rfl) <| q9 (qB rfl) <| qR (wu rfl rfl rfl) <| qT ?_
       skip
       refine qJ <| wT wB <| wD [(81, .pure _), (82, .pure _), (83, .pure _), (84, .pure _), (85, .pure _)] (by kernel_rfl) rfl rfl rfl wm (qC rfl (fun X => qP rfl) <| qC rfl (fun X => qQ rfl) <| qC rfl (fun X => qB rfl) <| qC rfl (fun X => qI rfl rfl) <| qC rfl (fun X => wW rfl) <| ParH.nil rfl) ?_
       dsimp only [ze, List.drop, List.length]
       refine zi (by kernel_rfl) (zL (q := (2, 0)) (v := (1 : Int)) rfl rfl rfl hMm.s) ?_
       rintro _ _ ⟨os', hos', rfl⟩
       refine wI <| qW ⟨((p, .cells (zO (xx n size) ma md ms u).toArray 90 (0, 0)) :: (ma, oa) :: (md, od) :: (ms, os') :: C : qV), ?_⟩ ?_
       · (try dsimp only); rw [hT2]; refine ⟨?_, rfl⟩; unfold xx; rw [if_pos hc19]; exact ⟨ma, md, ms, oa, od, os', u, C, rfl, hMm.a, hMm.d, hos', hMm.g⟩
       · (try dsimp only); exact (by rw [hG]; unfold xx; rw [if_pos hc19]; simp only [zO, setStale]; exact (yj (by intro f; simp only [List.flatten_cons, List.flatten_nil, List.append_nil, List.countP_append, List.countP_cons, List.countP_nil]; omega)))
      ·
       refine qZ <| qW ⟨Cm, ?_⟩ ?_
       · (try dsimp only); rw [hT2]; refine ⟨?_, rfl⟩; unfold xx; rw [if_neg hc19]; exact hnm
       · (try dsimp only); exact (by rw [hCm, hG]; exact (yj (by intro f; simp only [List.flatten_cons, List.flatten_nil, List.append_nil, List.countP_append, List.countP_cons, List.countP_nil]; omega)))
     rintro ⟨Cm', hcut⟩
     replace hcut : NodeC p (j8 n g size).2 Cm' ∧ (j8 n g size).1 = 0 := hcut
     obtain ⟨hend, hend0⟩ := hcut
     show Tr _ _ _ ([]) (Cm' :: D :: G :: F) _ _
     refine qO <| qE rfl <| qF <| qy <| wC (Cm' :: D :: G :: F) (.inl rfl) rfl (qu rfl) ?_
     exact ⟨Cm', by rw [hend0], hend, rfl⟩
end
end Go.Proofs.YtjikpomndbkfgaaGreatDoor
namespace Go.Sx
open Go
section
variable {P : Program} {N : Nat} {w0 : World} {E : Env} {L : Res}
theorem run_equalIn_mapNil {w : World} (d : Nat) (t k e : TypeId) (p : Option Nat) (h : P.underlying t = some (.map k e)) :
    (Op.equalIn (d + 1) t (.map p) (.map none)).run P w = .ok p.isNone w := by
  cases p <;> simp [Op.equalIn, qz h]
theorem run_eql_mapNil {w : World} (t k e : TypeId) (p : Option Nat) (h : P.underlying t = some (.map k e)) :
    (binOp .eql t (.map p) (.map none)).run P w = .ok (.bool p.isNone) w := by
  simp only [binOp]
  simp [show Op.equal t (.map p) (.map none) = Op.equalIn (9999 + 1) t (.map p) (.map none) from rfl, run_equalIn_mapNil 9999 t k e p h]
theorem op_eqlMapNil {x y : Operand} {t yt ty k e : TypeId} {p : Option Nat} (hx : opv E x = some (.map p)) (hy : opv E y = some (.map none)) (h : P.underlying t = some (.map k e)) : Op1 P N w0 E L (.binOp .eql t x y yt) ty (.bool p.isNone) L :=
  .of_run fun o a w h1 _ h3 h4 => ⟨w, by
    have hg : (eqGuard .eql t x y (.map p) (.map none)).run P w = .ok () w := rfl
    rw [execOp, h1]
    simp only [Sem.run_bind, h3.eval hx, h3.eval hy, hg, Result.andThen_ok, run_eql_mapNil t k e p h]
    rfl, h4⟩
theorem op_typeAssertM {x : Operand} {t xT k e ty : TypeId} {v : Value} (hx : opv E x = some (.iface t v)) (h : P.underlying t = some (.map k e)) : Op1 P N w0 E L (.typeAssert x xT t false) ty v L :=
  .of_run fun o a w h1 _ h3 h4 => ⟨w, by
    have hb : (Instr.typeAssert (.iface t v) xT t false).run P w = .ok v w := by
      simp [Instr.typeAssert, qz h, go_sem, Result.andThen]
    rw [execOp, h1]
    simp [h3.eval hx, hb, Sem.run_bind, Result.andThen], h4⟩
theorem op_mapsClone {args : List Operand} {f t r ty : Nat} {tys : Array TypeId} {fn : Func} {es : Array MapEntry} {clock : Nat} {S : Obj → Res} (hargs : jW E args = some [.iface t (.map (some r))]) [ha : At L r (.map es clock) S]
    (hf : P.funcs[f]? = some fn) (hname : (fn.name == "runtime.NumGoroutine") = false) (hb : fn.body.isNone = true) (hn : Extern.findNext fn = none) (he : Extern.find fn = some Extern.MapsClone.clone) :
    OpT P N w0 E L (.call ⟨.value (.func f), args.toArray, tys⟩) ty (fun v L' => ∃ q, v = .iface t (.map (some q)) ∧ L' = [(q, .map es clock)] :: L) :=
  .of_runE fun o a w h1 _ h3 h4 => ⟨_, _, { w with heap := w.heap.push (.map es clock) }, by
    have hg := h4.get ha
    have hc : (Extern.MapsClone.clone #[.iface t (.map (some r))]).run P w = .ok (.iface t (.map (some w.heap.size))) (w.alloc (.map es clock)) := by
      have e : Extern.MapsClone.clone #[.iface t (.map (some r))] = (getObj r >>= fun o => match o with
          | .map entries clock => (newObj (.map entries clock) >>= fun n => pure (.iface t (.map (some n))))
          | _ => stuck "maps.clone: a map expected") := rfl
      rw [e]
      simp [MapKept.run_getObj_map hg, Result.andThen, go_sem]
    have hrun : (callFunc f #[.iface t (.map (some r))]).run P w = .ok (.value (.iface t (.map (some w.heap.size)))) (w.alloc (.map es clock)) := by
      rw [run_callFunc_extern hf hname hb hn he, hc]; rfl
    have hgo : (execOp a.eval o).run P w = (callFunc f [.iface t (.map (some r))].toArray).run P w := by
      rw [execOp, h1]; simp [resolve, Act.eval, Deferred.ofValue, invoke, Q6 h3 _ _ hargs]
    exact hgo.trans hrun, ⟨_, rfl, rfl⟩, h4.alloc _⟩
theorem ParH.actG {ops os : List Oper} {items : List (Nat × PItem)} {k j d g dg : Nat} {b : Bool} {op : Op} {ty : TypeId} {pos : String} {af : Array Edge} {A : qV} {G : Value → qV → Prop}
    (hi : items[j]? = some (d, .act A G)) (hg : yu ops g = some dg) (hl : yr E dg = some (.bool b)) (h : ∀ X, OpT P N w0 (Zj items k af.toList E) (A :: X :: L) op ty (fun v' L' => ∃ C, G v' C ∧ L' = C :: X :: L)) (t : ParH P N w0 ops items k E L (j + 1) os) :
    ParH P N w0 ops items k E L j (⟨some d, op, ty, pos, af, some (g, b)⟩ :: os) :=
  .cons ⟨d, _, hi, rfl, .inr ⟨A, G, rfl, by simp [jv, hg, hl], h⟩⟩ t
theorem FnT.rdA2 {f : FuncId} {args : Array Value} {F : Res} {G : Value → qV → Prop} (c1 c2 : qV) [ht : Take L [c1, c2] F] (h : FnT P w0 f args (c1 :: c2 :: F) (fun v L' => ∃ C, G v C ∧ L' = C :: c1 :: c2 :: F)) : FnT P w0 f args L (fun v L' => ∃ C, G v C ∧ L' = C :: L) :=
  (h.pre fun _ hw => hw.perm ht.perm).post fun v L' ⟨C, h1, h2⟩ => ⟨_, ⟨C, h1, rfl⟩, by subst h2; exact fun w hw => hw.perm (by simpa using List.Perm.append_left C ht.perm.symm)⟩
section
variable {K V : Type} [DecidableEq K]
theorem W2 {x y : Operand} {t kt et ty r : Nat} {enc : K → Value} {val : V → Value} {f : K → Option V} {ob : Obj} {S : Obj → Res} {z v : V} {q : K} [ht : jf P t kt et] [hz : TyZero P et (val z)] [hk : KeyOf P kt enc]
    (hx : opv E x = some (.map (some r))) (hy : opv E y = some (enc q)) [ha : At L r ob S] (ho : MapF enc val f ob) (hv : (f q).getD z = v) :
    Op1 P N w0 E L (.lookup t x y false) ty (val v) L := by subst hv; exact yP hx hy ho
theorem K2 {enc : K → Value} {val : V → Value} {al : List (K × V)} {f : K → Option V} {q : K} {v : V} {st : Nat} {o : Obj} (h : Vt enc val (jX al q v) q st o) (hag : ∀ k, yA al k = f k) : MapF enc val (upd f q (some v)) o := by
  obtain ⟨es, clock, i, e, he, _⟩ := h
  exact ⟨_, ⟨es, clock, e, he⟩, fun k => by rw [yl]; unfold upd; split <;> simp [hag]⟩
end
theorem kx {Q : Exit → Act → World → Prop} {ops os : List Oper} {d g j : Nat} {t : Bool} {op : Op} {ty : TypeId} {pos : String} {af : Array Edge}
    (hj : yu ops j = some g) (hv : yr E g = some undef)
    (k : TrOs P N w0 ops ((d, undef) :: E) L os Q) (hd : Nat.blt d N = true := by rfl) :
    TrOs P N w0 ops E L (⟨some d, op, ty, pos, af, some (j, t)⟩ :: os) Q :=
  ⟨fun a w ha hw => by
    show (if Region.wanted _ _ then _ else _)
    have hy : yielded ops.toArray a.tmps j = none := by
      have h1 : ((ops.toArray)[j]?).bind (·.dst) = some g := by simpa [yu] using hj
      unfold yielded
      rw [h1]
      simp only [Option.bind_some, ha.at_ g _ hv]
      rfl
    have : ¬ Region.wanted (⟨some d, op, ty, pos, af, some (j, t)⟩ : Oper) (yielded ops.toArray a.tmps) = true := by
      simp only [Region.wanted, hy]
      simp
    rw [if_neg this]
    exact k.h _ _ (ha.put (dst := some d) hd _) hw⟩
end
end Go.Sx
namespace Go.Proofs.YtjikpomndbkfgaaGreatDoor
open Go Go.Sx Go.Nd
set_option maxRecDepth 10000
section
variable {w0 : World} {L F : Res}
theorem mapF_isMap {K V : Type} [DecidableEq K] {enc : K → Value} {val : V → Value} {f : K → Option V} {o : Obj} (h : MapF enc val f o) : ∃ es clock, o = .map es clock := by
  obtain ⟨al, ⟨es, clock, e, _⟩, _⟩ := h
  exact ⟨_, _, e⟩
theorem JU (r : Nat) (o : Obj) (f : Int × Int → Option Int) (hf : MapF yN (Value.int .i64) f o) :
    FnT Tryz.prog w0 53 #[.map (some r)] ([(r, o)] :: F) (fun v L' => ∃ q, v = .map (some q) ∧ L' = [(q, o)] :: [(r, o)] :: F) := by
  obtain ⟨es, clock, rfl⟩ := mapF_isMap hf
  refine qi (E0 := [(0, _)]) (N := 9) Tryz.func53 rfl rfl rfl rfl ?_
  refine qO <| qE rfl <| qF <| qN <| qO <| qA rfl <| q9 (op_eqlMapNil rfl rfl Tryz.underlying88) <| qF <| wV rfl <| qZ <| qJ <| qO <| qA rfl <| q9 (xB rfl Tryz.underlying88 rfl) <| qG (op_mapsClone (r := r) rfl Tryz.func88 (by kernel_rfl) (by kernel_rfl) (by kernel_rfl) (by kernel_rfl)) ?_
  rintro t7 _ ⟨q, rfl, rfl⟩
  refine q9 (op_typeAssertM rfl Tryz.underlying88) <| qE rfl <| qF <| qy <| zq (.inl rfl) rfl (qu rfl) ?_
  exact ⟨q, rfl, rfl⟩
def Y3 (xs : List (Int × Int)) : List (Int × Int) := xs.mergeSort (fun a b => decide (kZ a b ≤ 0))
def Jt : Int → Option Int := upd (upd (upd (upd (upd (fun _ => none) 1 (some 0)) 5 (some 1)) 3 (some 2)) 4 (some 3)) 2 (some 4)
structure QA : Prop where
  sortF : ∀ (w0 : World) (F : Res) (u : Value) (xs : List (Int × Int)) (C : qV) (b r : Nat) (o : Obj), SlC 100 2 u xs.length (xs.flatMap zK) C → xs.length ≤ 1000000 → (∀ x ∈ xs, qw x) → MapF (Value.int .i64) (Value.int .i64) Jt o →
    FnT Tryz.prog w0 79 #[u, .func (.func 80) #[] #[.pointer (some ⟨b, 0, none⟩)]] (C :: [(b, .cells [Value.map (some r)].toArray 150 (0, 0))] :: [(r, o)] :: F)
      (fun v L' => v = .tuple #[] ∧ ∃ C', SlC 100 2 u xs.length ((Y3 xs).flatMap zK) C' ∧ L' = C' :: [(b, .cells [Value.map (some r)].toArray 150 (0, 0))] :: [(r, o)] :: F)
def QQ (n : NS) (k : Int × Int) : Prop := n.stale k ≠ none ∨ ∃ i, n.data i ≠ none ∧ (k = (1, i) ∨ k = ww i)
def Ky (n : NS) (k : Int × Int) : Prop := QQ n k ∨ (k = (4, 0) ∧ ∃ q, QQ n q ∧ q.1 = 5)
def ZQ (n : NS) (k : Int × Int) : Prop := Ky n k ∨ (k = (2, 0) ∧ ∃ q, Ky n q)
def XN (n : NS) (k : Int × Int) : Prop := k.1 = 1 ∨ k.1 = 2 ∨ WR n k = true
open Classical in
noncomputable def yO (n : NS) : List (Int × Int) := allParts.filter (fun k => decide (ZQ n k ∧ XN n k))
theorem Kl {n : NS} (h : NOk n) {k : Int × Int} (hb : QQ n k) : qw k := by
  rcases hb with hb | ⟨i, hi, rfl | rfl⟩
  · exact h.stale k hb
  · exact .inl ⟨rfl, (h.data i hi).1, (h.data i hi).2⟩
  · exact Q9 (h.data i hi)
theorem Zu {n : NS} (h : NOk n) {k : Int × Int} (hb : ZQ n k) : qw k := by
  rcases hb with (hb | ⟨rfl, _⟩) | ⟨rfl, _⟩
  · exact Kl h hb
  · exact .inr (.inr (.inr (.inl rfl)))
  · exact .inr (.inl rfl)
section
variable {n : NS} {al : List (Int × Sec)} {al2 : List ((Int × Int) × Int)} {vis : List Nat} {i : Nat} {f h : Int × Int → Option Int}
theorem Jl {β : Type} {f : Int × Int → Option β} {q : Int × Int} {v : β} (k : Int × Int) : upd f q (some v) k ≠ none ↔ f k ≠ none ∨ k = q := by
  unfold upd
  split
  · rename_i e; simp [e]
  · rename_i e; simp [e]
theorem all0_step {q : Int × Sec} (hq : al[i]? = some q) (hf : ∀ k, f k ≠ none ↔ n.stale k ≠ none ∨ ∃ i, kc al vis i ∧ (k = (1, i) ∨ k = ww i)) :
    ∀ k, upd (upd f (1, q.1) (some 1)) (ww q.1) (some 1) k ≠ none ↔ n.stale k ≠ none ∨ ∃ j, kc al (vis ++ [i]) j ∧ (k = (1, j) ∨ k = ww j) := fun k => by
  rw [Jl, Jl, hf]
  constructor
  · rintro (((h | ⟨j, h1, h2⟩) | h) | h)
    · exact .inl h
    · exact .inr ⟨j, (k9 hq j).2 (.inl h1), h2⟩
    · exact .inr ⟨q.1, (k9 hq _).2 (.inr rfl), .inl h⟩
    · exact .inr ⟨q.1, (k9 hq _).2 (.inr rfl), .inr h⟩
  · rintro (h | ⟨j, h1, h2⟩)
    · exact .inl (.inl (.inl h))
    · rcases (k9 hq j).1 h1 with h1 | rfl
      · exact .inl (.inl (.inr ⟨j, h1, h2⟩))
      · rcases h2 with h2 | h2
        · exact .inl (.inr h2)
        · exact .inr h2
theorem all0_end {od io : Obj} {md : Nat} (hio : IterOk md od al.length vis io) (hfin : vis.length = al.length) (hag : ∀ k, yA al k = n.data k)
    (hf : ∀ k, f k ≠ none ↔ n.stale k ≠ none ∨ ∃ i, kc al vis i ∧ (k = (1, i) ∨ k = ww i)) : ∀ k, f k ≠ none ↔ QQ n k := fun k => by
  rw [hf]
  have hv : ∀ i, kc al vis i ↔ n.data i ≠ none := fun i => by
    rw [QZ hio hfin i, hag]
    cases n.data i <;> simp
  unfold QQ
  simp only [hv]
theorem JZ {q : (Int × Int) × Int} (hq : al2[i]? = some q) (hh : ∀ k, h k ≠ none ↔ f k ≠ none ∨ (k = (4, 0) ∧ ∃ x, kc al2 vis x ∧ x.1 = 5)) :
    (q.1.1 = 5 → ∀ k, upd h (4, 0) (some 1) k ≠ none ↔ f k ≠ none ∨ (k = (4, 0) ∧ ∃ x, kc al2 (vis ++ [i]) x ∧ x.1 = 5)) ∧
    (¬ q.1.1 = 5 → ∀ k, h k ≠ none ↔ f k ≠ none ∨ (k = (4, 0) ∧ ∃ x, kc al2 (vis ++ [i]) x ∧ x.1 = 5)) := by
  refine ⟨fun h5 k => ?_, fun h5 k => ?_⟩
  · rw [Jl, hh]
    constructor
    · rintro ((h | ⟨h1, x, h2, h3⟩) | h)
      · exact .inl h
      · exact .inr ⟨h1, x, (k9 hq x).2 (.inl h2), h3⟩
      · exact .inr ⟨h, q.1, (k9 hq _).2 (.inr rfl), h5⟩
    · rintro (h | ⟨h1, _⟩)
      · exact .inl (.inl h)
      · exact .inr h1
  · rw [hh]
    constructor
    · rintro (h | ⟨h1, x, h2, h3⟩)
      · exact .inl h
      · exact .inr ⟨h1, x, (k9 hq x).2 (.inl h2), h3⟩
    · rintro (h | ⟨h1, x, h2, h3⟩)
      · exact .inl h
      · rcases (k9 hq x).1 h2 with h2 | rfl
        · exact .inr ⟨h1, x, h2, h3⟩
        · exact absurd h3 h5
theorem all1_end {ao io : Obj} {r : Nat} (hio : IterOk r ao al2.length vis io) (hfin : vis.length = al2.length) (hag : ∀ k, yA al2 k = f k) (hf : ∀ k, f k ≠ none ↔ QQ n k)
    (hh : ∀ k, h k ≠ none ↔ f k ≠ none ∨ (k = (4, 0) ∧ ∃ x, kc al2 vis x ∧ x.1 = 5)) : ∀ k, h k ≠ none ↔ Ky n k := fun k => by
  rw [hh, hf]
  have hv : ∀ x, kc al2 vis x ↔ QQ n x := fun x => by
    rw [QZ hio hfin x, hag, ← hf]
    cases f x <;> simp
  unfold Ky
  simp only [hv]
theorem all2_end {al3 : List ((Int × Int) × Int)} (hag : ∀ k, yA al3 k = h k) (hh : ∀ k, h k ≠ none ↔ Ky n k) :
    ((0 : Int) < al3.length → ∀ k, upd h (2, 0) (some 1) k ≠ none ↔ ZQ n k) ∧ (¬ (0 : Int) < al3.length → ∀ k, h k ≠ none ↔ ZQ n k) := by
  refine ⟨fun hl k => ?_, fun hl k => ?_⟩
  · rw [Jl, hh]
    unfold ZQ
    refine or_congr_right ⟨fun e => ⟨e, ?_⟩, fun e => e.1⟩
    cases al3 with
    | nil => simp at hl
    | cons p al3 => exact ⟨p.1, (hh _).1 (by rw [← hag]; simp [yA])⟩
  · rw [hh]
    unfold ZQ
    refine ⟨.inl, fun e => ?_⟩
    rcases e with e | ⟨_, q, hq⟩
    · exact e
    · have : al3 = [] := by cases al3 with | nil => rfl | cons p l => simp at hl
      subst this
      have := (hh q).2 hq
      rw [← hag] at this
      exact absurd rfl this
end
def kinds5 : List Int := [1, 5, 3, 4, 2]
section
variable {n : NS} {al : List ((Int × Int) × Int)} {vis : List Nat} {i : Nat} {h : Int × Int → Option Int} {out : List (Int × Int)} {ks : Int → Prop} {kd : Int}
def Yk (n : NS) (h : Int × Int → Option Int) (ks : Int → Prop) (kd : Int) (vs : Int × Int → Prop) (out : List (Int × Int)) : Prop := out.Nodup ∧ ∀ k, k ∈ out ↔ h k ≠ none ∧ XN n k ∧ (ks k.1 ∨ (k.1 = kd ∧ vs k))
theorem outIs_in {q : (Int × Int) × Int} (hk : (zJ al).Nodup) (hag : ∀ k, yA al k = h k) (hni : i ∉ vis) (hks : ¬ ks kd) (hq : al[i]? = some q) (hsel : q.1.1 = kd ∧ XN n q.1) (ho : Yk n h ks kd (kc al vis) out) : Yk n h ks kd (kc al (vis ++ [i])) (out ++ [q.1]) := by
  obtain ⟨h1, h2⟩ := ho
  have hqm : h q.1 ≠ none := by rw [← hag, x6 hk (List.mem_of_getElem? hq)]; simp
  refine ⟨?_, fun k => ?_⟩
  · rw [List.nodup_append]
    refine ⟨h1, by simp, fun a ha b hb => ?_⟩
    obtain rfl := List.mem_singleton.1 hb
    rintro rfl
    rcases ((h2 _).1 ha).2.2 with h3 | ⟨_, h3⟩
    · exact hks (hsel.1 ▸ h3)
    · exact XI hk hq hni h3
  · rw [List.mem_append, List.mem_singleton, h2, k9 hq]
    constructor
    · rintro (⟨h3, h4, h5 | ⟨h5, h6⟩⟩ | rfl)
      · exact ⟨h3, h4, .inl h5⟩
      · exact ⟨h3, h4, .inr ⟨h5, .inl h6⟩⟩
      · exact ⟨hqm, hsel.2, .inr ⟨hsel.1, .inr rfl⟩⟩
    · rintro ⟨h3, h4, h5 | ⟨h5, h6 | h6⟩⟩
      · exact .inl ⟨h3, h4, .inl h5⟩
      · exact .inl ⟨h3, h4, .inr ⟨h5, h6⟩⟩
      · exact .inr h6
theorem outIs_out {q : (Int × Int) × Int} (hq : al[i]? = some q) (hsel : ¬ (q.1.1 = kd ∧ XN n q.1)) (ho : Yk n h ks kd (kc al vis) out) : Yk n h ks kd (kc al (vis ++ [i])) out := by
  obtain ⟨h1, h2⟩ := ho
  refine ⟨h1, fun k => ?_⟩
  rw [h2, k9 hq]
  constructor
  · rintro ⟨h3, h4, h5 | ⟨h5, h6⟩⟩
    · exact ⟨h3, h4, .inl h5⟩
    · exact ⟨h3, h4, .inr ⟨h5, .inl h6⟩⟩
  · rintro ⟨h3, h4, h5 | ⟨h5, h6 | rfl⟩⟩
    · exact ⟨h3, h4, .inl h5⟩
    · exact ⟨h3, h4, .inr ⟨h5, h6⟩⟩
    · exact absurd ⟨h5, h4⟩ hsel
end
def Vv (n : NS) (h : Int × Int → Option Int) (j : Nat) (out : List (Int × Int)) : Prop := out.Nodup ∧ ∀ k, k ∈ out ↔ h k ≠ none ∧ XN n k ∧ k.1 ∈ kinds5.take j
theorem outK_start {n : NS} {h : Int × Int → Option Int} {j : Nat} {out : List (Int × Int)} {al : List ((Int × Int) × Int)} (kd : Int) (ho : Vv n h j out) : Yk n h (fun k => k ∈ kinds5.take j) kd (kc al []) out :=
  ⟨ho.1, fun k => by rw [ho.2]; simp only [WU, and_false, or_false]⟩
theorem kinds5_fresh {j : Nat} {kd : Int} (hj : kinds5[j]? = some kd) : kd ∉ kinds5.take j := by
  have hn : kinds5.Nodup := by decide
  intro hm
  obtain ⟨i, hi, e⟩ := List.mem_iff_getElem.1 hm
  have hlt := (List.getElem?_eq_some_iff.1 hj).1
  simp at hi
  have : kinds5[i]? = kinds5[j]? := by rw [hj, ← e]; simp
  have := (List.getElem?_inj (by omega) hn).1 this
  omega
theorem outIs_end {n : NS} {h : Int × Int → Option Int} {j : Nat} {out : List (Int × Int)} {al : List ((Int × Int) × Int)} {vis : List Nat} {kd : Int} {r : Nat} {ao io : Obj} (hj : kinds5[j]? = some kd) (hio : IterOk r ao al.length vis io) (hfin : vis.length = al.length) (hag : ∀ k, yA al k = h k)
    (ho : Yk n h (fun k => k ∈ kinds5.take j) kd (kc al vis) out) : Vv n h (j + 1) out := by
  refine ⟨ho.1, fun k => ?_⟩
  rw [ho.2, List.take_add_one, hj]
  have hv : kc al vis k ↔ h k ≠ none := by
    rw [QZ hio hfin k, hag]
    cases h k <;> simp
  rw [hv]
  simp only [Option.toList_some, List.mem_append, List.mem_singleton]
  constructor
  · rintro ⟨h3, h4, h5 | ⟨h5, h6⟩⟩
    · exact ⟨h3, h4, .inl h5⟩
    · exact ⟨h3, h4, .inr h5⟩
  · rintro ⟨h3, h4, h5 | h5⟩
    · exact ⟨h3, h4, .inl h5⟩
    · exact ⟨h3, h4, .inr ⟨h5, h3⟩⟩
open Classical in
theorem srtP_parts {n : NS} (hok : NOk n) {h : Int × Int → Option Int} {out : List (Int × Int)} (hh : ∀ k, h k ≠ none ↔ ZQ n k) (ho : Vv n h 5 out) : Y3 out = yO n := by
  have hok' : ∀ x ∈ out, qw x := fun x hx => Zu hok ((hh x).1 ((ho.2 x).1 hx).1)
  have hperm : (Y3 out).Perm out := List.mergeSort_perm out _
  have hsorted : (Y3 out).Pairwise (fun a b => kZ a b ≤ 0) := by
    have hx : (Y3 out).Pairwise (fun a b => decide (kZ a b ≤ 0) = true) := by
      have key : ∀ (l : List {x : Int × Int // qw x}), (l.mergeSort (fun a b => decide (kZ a.1 b.1 ≤ 0))).Pairwise (fun a b => decide (kZ a.1 b.1 ≤ 0) = true) := fun l =>
        List.pairwise_mergeSort (fun a b c h1 h2 => by simp only [decide_eq_true_eq] at *; exact WF a.2 b.2 c.2 h1 h2) (fun a b => by simp only [Bool.or_eq_true, decide_eq_true_eq]; exact cmpP_total _ _) l
      have e : Y3 out = ((out.attachWith qw hok').mergeSort (fun a b => decide (kZ a.1 b.1 ≤ 0))).map (·.1) := by
        rw [List.map_mergeSort (r := fun a b => decide (kZ a.1 b.1 ≤ 0)) (s := fun a b => decide (kZ a b ≤ 0)) (f := fun x : {x : Int × Int // qw x} => x.1) (l := out.attachWith qw hok') (fun _ _ _ _ => rfl)]
        rw [List.attachWith_map_subtype_val]; rfl
      rw [e, List.pairwise_map]
      exact key _
    exact hx.imp (fun h => of_decide_eq_true h)
  unfold yO
  refine WN ho.1 (fun k => ?_) hperm hsorted
  rw [ho.2, hh, decide_eq_true_iff]
  constructor
  · exact fun ⟨h1, h2, _⟩ => ⟨Zu hok h1, h1, h2⟩
  · rintro ⟨h0, h1, h2⟩
    refine ⟨h1, h2, ?_⟩
    show k.1 ∈ ([1, 5, 3, 4, 2] : List Int)
    rcases h0 with ⟨e, _⟩ | e | e | e | ⟨e, _⟩ <;> rw [e] <;> decide
theorem xJ (H : jL w0) (HP : QA) (p : Nat) (n : NS) (Cn G : qV) (hn : NodeC p n Cn) (hg : kj G) (hok : NOk n) :
    FnT Tryz.prog w0 46 #[.pointer (some ⟨p, 0, none⟩)] (Cn :: G :: F) (fun v L' => ∃ C', SlC 100 2 v (yO n).length ((yO n).flatMap zK) C' ∧ L' = C' :: Cn :: G :: F) := by
  obtain ⟨e0, f0, e1, f1, e2, f2, hG⟩ := id hg
  obtain ⟨ma, md, ms, oa, od, os, u, C, hM, hCn⟩ := hn.eq
  unfold zO at hCn
  obtain ⟨al, hal, hag⟩ := hM.d
  refine FnT.pre (L' := [(p, .cells [.int .u32 n.num, .int .u32 n.ver, .int .i64 n.kind, .int .i64 n.size, .int .u32 n.time, .map (some ma), .map (some md), .map (some ms), u].toArray 90 (0, 0))] :: [(ma, oa)] :: [(md, od)] :: [(ms, os)] :: C :: G :: F) ?_ (wZ (by rw [hCn]; simp))
  refine qi (E0 := [(0, _)]) (N := 88) Tryz.func46 rfl rfl rfl rfl ?_
  refine qO <| qE rfl <| qm <| qA rfl <| q9 (qQ rfl) <| q9 (qB rfl) <| q9 (qI rfl rfl) <| qG (w5 rfl (we ([(ms, os)]) (JU ms os n.stale hM.s))) ?_
  rintro t15 _ ⟨q, rfl, rfl⟩
  refine qE rfl <| qF <| qN <| qO <| qA rfl <| q9 (qQ rfl) <| q9 (qB rfl) <| q9 (qI rfl rfl) <| qG (x2 (r := md) rfl hal) ?_
  rintro t20 _ ⟨it, io, rfl, hio, rfl⟩
  refine qF <| qg <| wS (Γ := {pΓ : (List Nat) × (Obj) × (Obj) × (Int × Int → Option Int) // (fun (vis : List Nat) (io : Obj) (ao : Obj) (f : Int × Int → Option Int) => IterOk md od al.length vis io ∧ MapF yN (Value.int .i64) f ao ∧ (∀ k, f k ≠ none ↔ n.stale k ≠ none ∨ ∃ i, kc al vis i ∧ (k = (1, i) ∨ k = ww i))) pΓ.1 pΓ.2.1 pΓ.2.2.1 pΓ.2.2.2}) (fun g => (fun (vis : List Nat) (io : Obj) (ao : Obj) (f : Int × Int → Option Int) => [(0, .pointer (some ⟨p, 0, none⟩)), (3, .map (some q)), (20, .pointer (some ⟨it, 0, none⟩))]) g.1.1 g.1.2.1 g.1.2.2.1 g.1.2.2.2) (fun g => (fun (vis : List Nat) (io : Obj) (ao : Obj) (f : Int × Int → Option Int) => [(it, io)] :: [(q, ao)] :: [(p, .cells [.int .u32 n.num, .int .u32 n.ver, .int .i64 n.kind, .int .i64 n.size, .int .u32 n.time, .map (some ma), .map (some md), .map (some ms), u].toArray 90 (0, 0))] :: [(ma, oa)] :: [(md, od)] :: [(ms, os)] :: C :: G :: F) g.1.1 g.1.2.1 g.1.2.2.1 g.1.2.2.2) (fun g => (fun (vis : List Nat) (io : Obj) (ao : Obj) (f : Int × Int → Option Int) => al.length - vis.length) g.1.1 g.1.2.1 g.1.2.2.1 g.1.2.2.2) ⟨([], io, os, n.stale), by dsimp only; exact ⟨hio, hM.s, fun k => ⟨fun h => .inl h, fun h => h.resolve_right (fun ⟨_, h, _⟩ => WU h)⟩⟩⟩ (qX _) ?_
  rintro ⟨⟨vis, io, ao, f⟩, hloop⟩
  replace hloop : IterOk md od al.length vis io ∧ MapF yN (Value.int .i64) f ao ∧ (∀ k, f k ≠ none ↔ n.stale k ≠ none ∨ ∃ i, kc al vis i ∧ (k = (1, i) ∨ k = ww i)) := hloop
  obtain ⟨hio, hf, hfk⟩ := hloop
  show Tr _ _ _ ([(0, .pointer (some ⟨p, 0, none⟩)), (3, .map (some q)), (20, .pointer (some ⟨it, 0, none⟩))]) ([(it, io)] :: [(q, ao)] :: [(p, .cells [.int .u32 n.num, .int .u32 n.ver, .int .i64 n.kind, .int .i64 n.size, .int .u32 n.time, .map (some ma), .map (some md), .map (some ms), u].toArray 90 (0, 0))] :: [(ma, oa)] :: [(md, od)] :: [(ms, os)] :: C :: G :: F) _ _
  refine qO <| qG (xM (r := md) (ob := od) (vis := vis) rfl (fun w hw => Own.get hw (inferInstance : At _ md od _)) hal hio) ?_
  rintro t21 _ (⟨rfl, hfin, rfl⟩ | ⟨i, x, io', rfl, hq, hni, hio', rfl⟩)
  ·
   refine q9 (qf rfl rfl) <| qF <| qN <| wV rfl <| wa <| qr <| qt <| qh <| qJ <| qN <| qN ?_
   have hfk2 := all0_end hio hfin hag hfk
   obtain ⟨al2, hal2, hag2⟩ := hf
   refine yy (L' := [(q, ao)] :: Cn :: G :: F) (fun w hw => wZ (by rw [hCn]; simp) w hw.tail) ?_
   refine qK <| qA rfl <| qG (w5 rfl (we ([(q, ao)]) (JU q ao f ⟨al2, hal2, hag2⟩))) ?_
   rintro t32 _ ⟨q2, rfl, rfl⟩
   refine qG (x2 (r := q2) rfl hal2) ?_
   rintro t33 _ ⟨it2, io2, rfl, hio2, rfl⟩
   refine qF <| qg <| wS (Γ := {pΓ : (List Nat) × (Obj) × (Obj) × (Int × Int → Option Int) // (fun (vis : List Nat) (io : Obj) (ao2 : Obj) (h : Int × Int → Option Int) => IterOk q2 ao al2.length vis io ∧ MapF yN (Value.int .i64) h ao2 ∧ (∀ k, h k ≠ none ↔ f k ≠ none ∨ (k = (4, 0) ∧ ∃ x, kc al2 vis x ∧ x.1 = 5))) pΓ.1 pΓ.2.1 pΓ.2.2.1 pΓ.2.2.2}) (fun g => (fun (vis : List Nat) (io : Obj) (ao2 : Obj) (h : Int × Int → Option Int) => [(0, .pointer (some ⟨p, 0, none⟩)), (3, .map (some q)), (33, .pointer (some ⟨it2, 0, none⟩))]) g.1.1 g.1.2.1 g.1.2.2.1 g.1.2.2.2) (fun g => (fun (vis : List Nat) (io : Obj) (ao2 : Obj) (h : Int × Int → Option Int) => [(it2, io)] :: [(q2, ao)] :: [(q, ao2)] :: Cn :: G :: F) g.1.1 g.1.2.1 g.1.2.2.1 g.1.2.2.2) (fun g => (fun (vis : List Nat) (io : Obj) (ao2 : Obj) (h : Int × Int → Option Int) => al2.length - vis.length) g.1.1 g.1.2.1 g.1.2.2.1 g.1.2.2.2) ⟨([], io2, ao, f), by dsimp only; exact ⟨hio2, ⟨al2, hal2, hag2⟩, fun k => ⟨fun h => .inl h, fun h => h.resolve_right (fun ⟨_, _, h, _⟩ => WU h)⟩⟩⟩ (qX _) ?_
   rintro ⟨⟨vis, io, ao2, h⟩, hloop⟩
   replace hloop : IterOk q2 ao al2.length vis io ∧ MapF yN (Value.int .i64) h ao2 ∧ (∀ k, h k ≠ none ↔ f k ≠ none ∨ (k = (4, 0) ∧ ∃ x, kc al2 vis x ∧ x.1 = 5)) := hloop
   obtain ⟨hio3, hh, hhk⟩ := hloop
   show Tr _ _ _ ([(0, .pointer (some ⟨p, 0, none⟩)), (3, .map (some q)), (33, .pointer (some ⟨it2, 0, none⟩))]) ([(it2, io)] :: [(q2, ao)] :: [(q, ao2)] :: Cn :: G :: F) _ _
   refine qO <| qG (xM (r := q2) (ob := ao) (vis := vis) rfl (fun w hw => Own.get hw (inferInstance : At _ q2 ao _)) hal2 hio3) ?_
   rintro t34 _ (⟨rfl, hfin2, rfl⟩ | ⟨i, x, io', rfl, hq, hni, hio', rfl⟩)
   ·
    refine q9 (qf rfl rfl) <| qF <| qN <| wV rfl <| wa <| qr <| qt <| qh <| qJ <| zY (Γ := {pΓ : (Obj) × (Int × Int → Option Int) // (fun (ao4 : Obj) (g : Int × Int → Option Int) => MapF yN (Value.int .i64) g ao4 ∧ (∀ k, g k ≠ none ↔ ZQ n k)) pΓ.1 pΓ.2}) (fun g => (fun (ao4 : Obj) (g : Int × Int → Option Int) => [(0, .pointer (some ⟨p, 0, none⟩)), (3, .map (some q))]) g.1.1 g.1.2) (fun g => (fun (ao4 : Obj) (g : Int × Int → Option Int) => [(q, ao4)] :: Cn :: G :: F) g.1.1 g.1.2) ?_ ?_
    ·
     refine qN ?_
     have hhk2 := all1_end hio3 hfin2 hag2 hfk2 hhk
     obtain ⟨al3, hal3, hag3⟩ := hh
     have hall := all2_end hag3 hhk2
     refine qK <| qA rfl <| q9 (KJ rfl hal3) <| q9 (y8 rfl rfl) <| qF <| qM rfl (fun hc12 => ?_) (fun hc12 => ?_)
     ·
      refine qK <| qA rfl <| q9 (k0 (b := 0) (off := 0) (c := [Value.int .i64 2, Value.int .i64 0].toArray) (e := e0) (fr := f0) (r := [.int .i64 2, .int .i64 0]) rfl (by rw [hG]; simp) rfl (by decide)) ?_
      refine y1 (zL (r := q) (q := (2, 0)) (v := (1 : Int)) rfl rfl rfl ⟨al3, hal3, hag3⟩) ?_
      rintro _ _ ⟨ao5, hh5, rfl⟩
      refine qT <| qW ⟨(ao5, upd h (2, 0) (some 1)), ?_⟩ ?_
      · (try dsimp only); exact ⟨hh5, hall.1 hc12⟩
      · (try dsimp only); exact qX _
     ·
      refine qZ <| qW ⟨(ao2, h), ?_⟩ ?_
      · (try dsimp only); exact ⟨⟨al3, hal3, hag3⟩, hall.2 hc12⟩
      · (try dsimp only); exact qX _
    rintro ⟨⟨ao4, g⟩, hcut⟩
    replace hcut : MapF yN (Value.int .i64) g ao4 ∧ (∀ k, g k ≠ none ↔ ZQ n k) := hcut
    obtain ⟨hga, hgk⟩ := hcut
    show Tr _ _ _ ([(0, .pointer (some ⟨p, 0, none⟩)), (3, .map (some q))]) ([(q, ao4)] :: Cn :: G :: F) _ _
    refine qN ?_
    obtain ⟨al4, hal4, hag4⟩ := hga
    refine qK <| qE rfl <| qF <| qN <| qO <| qG (wK rfl rfl rfl) ?_
    rintro t48 _ ⟨b48, rfl, rfl⟩
    refine q9 (w8 rfl) <| qA rfl <| qF <| qg <| wS (Γ := {pΓ : (Nat) × (List (Int × Int)) × (Value) × (qV) // (fun (j : Nat) (out : List (Int × Int)) (uo : Value) (Co : qV) => j ≤ 5 ∧ SlC 100 2 uo out.length (out.flatMap zK) Co ∧ Vv n g j out) pΓ.1 pΓ.2.1 pΓ.2.2.1 pΓ.2.2.2}) (fun g => (fun (j : Nat) (out : List (Int × Int)) (uo : Value) (Co : qV) => [(0, .pointer (some ⟨p, 0, none⟩)), (3, .map (some q)), (6, uo), (48, .slice (some ⟨b48, 0, none⟩) 5 5), (49, .int .i64 5), (50, .int .i64 j)]) g.1.1 g.1.2.1 g.1.2.2.1 g.1.2.2.2) (fun g => (fun (j : Nat) (out : List (Int × Int)) (uo : Value) (Co : qV) => Co :: [(b48, .cells [Value.int .i64 1, Value.int .i64 5, Value.int .i64 3, Value.int .i64 4, Value.int .i64 2].toArray 3 (0, 0))] :: [(q, ao4)] :: Cn :: G :: F) g.1.1 g.1.2.1 g.1.2.2.1 g.1.2.2.2) (fun g => (fun (j : Nat) (out : List (Int × Int)) (uo : Value) (Co : qV) => 5 - j) g.1.1 g.1.2.1 g.1.2.2.1 g.1.2.2.2) ⟨(0, [], .slice none 0 0, []), by dsimp only; exact ⟨by omega, SlC.nil _ _, by simp, fun k => by simp⟩⟩ (qX _) ?_
    rintro ⟨⟨j, out, uo, Co⟩, hloop⟩
    replace hloop : j ≤ 5 ∧ SlC 100 2 uo out.length (out.flatMap zK) Co ∧ Vv n g j out := hloop
    obtain ⟨hj, hsl, ho⟩ := hloop
    show Tr _ _ _ ([(0, .pointer (some ⟨p, 0, none⟩)), (3, .map (some q)), (6, uo), (48, .slice (some ⟨b48, 0, none⟩) 5 5), (49, .int .i64 5), (50, .int .i64 j)]) (Co :: [(b48, .cells [Value.int .i64 1, Value.int .i64 5, Value.int .i64 3, Value.int .i64 4, Value.int .i64 2].toArray 3 (0, 0))] :: [(q, ao4)] :: Cn :: G :: F) _ _
    refine qO <| q9 (wJ rfl rfl) <| qF <| qN <| qM rfl (fun hc16 => ?_) (fun hc16 => ?_)
    ·
     refine qZ <| qJ <| qN <| qg <| qN ?_
     obtain ⟨kd, hkd⟩ : ∃ kd, kinds5[j]? = some kd := ⟨_, List.getElem?_eq_getElem (by show j < 5; omega)⟩
     refine qK <| q9 (qx (j := j) (off := j * 1) rfl rfl rfl (by omega) (by simp)) ?_
     refine q9 (qI rfl (show wY (iV kinds5) (j * 1) = some (.int .i64 kd) by rw [zB, Nat.mul_one]; simp only [iV, List.getElem?_map, hkd, Option.map_some])) ?_
     refine qE rfl <| qm <| qA rfl <| qG (x2 (r := q) rfl hal4) ?_
     rintro t55 _ ⟨it3, io3, rfl, hio3, rfl⟩
     refine qF <| qg <| wS (Γ := {pΓ : (List Nat) × (Obj) × (List (Int × Int)) × (Value) × (qV) // (fun (vis : List Nat) (io : Obj) (out : List (Int × Int)) (uo : Value) (Co : qV) => IterOk q ao4 al4.length vis io ∧ SlC 100 2 uo out.length (out.flatMap zK) Co ∧ Yk n g (fun k => k ∈ kinds5.take j) kd (kc al4 vis) out) pΓ.1 pΓ.2.1 pΓ.2.2.1 pΓ.2.2.2.1 pΓ.2.2.2.2}) (fun g => (fun (vis : List Nat) (io : Obj) (out : List (Int × Int)) (uo : Value) (Co : qV) => [(0, .pointer (some ⟨p, 0, none⟩)), (3, .map (some q)), (6, uo), (8, .int .i64 kd), (48, .slice (some ⟨b48, 0, none⟩) 5 5), (49, .int .i64 5), (50, .int .i64 j), (55, .pointer (some ⟨it3, 0, none⟩))]) g.1.1 g.1.2.1 g.1.2.2.1 g.1.2.2.2.1 g.1.2.2.2.2) (fun g => (fun (vis : List Nat) (io : Obj) (out : List (Int × Int)) (uo : Value) (Co : qV) => [(it3, io)] :: Co :: [(b48, .cells [Value.int .i64 1, Value.int .i64 5, Value.int .i64 3, Value.int .i64 4, Value.int .i64 2].toArray 3 (0, 0))] :: [(q, ao4)] :: Cn :: G :: F) g.1.1 g.1.2.1 g.1.2.2.1 g.1.2.2.2.1 g.1.2.2.2.2) (fun g => (fun (vis : List Nat) (io : Obj) (out : List (Int × Int)) (uo : Value) (Co : qV) => al4.length - vis.length) g.1.1 g.1.2.1 g.1.2.2.1 g.1.2.2.2.1 g.1.2.2.2.2) ⟨([], io3, out, uo, Co), by dsimp only; exact ⟨hio3, hsl, outK_start kd ho⟩⟩ (qX _) ?_
     rintro ⟨⟨vis, io, out, uo, Co⟩, hloop⟩
     replace hloop : IterOk q ao4 al4.length vis io ∧ SlC 100 2 uo out.length (out.flatMap zK) Co ∧ Yk n g (fun k => k ∈ kinds5.take j) kd (kc al4 vis) out := hloop
     obtain ⟨hio4, hsl, hoi⟩ := hloop
     show Tr _ _ _ ([(0, .pointer (some ⟨p, 0, none⟩)), (3, .map (some q)), (6, uo), (8, .int .i64 kd), (48, .slice (some ⟨b48, 0, none⟩) 5 5), (49, .int .i64 5), (50, .int .i64 j), (55, .pointer (some ⟨it3, 0, none⟩))]) ([(it3, io)] :: Co :: [(b48, .cells [Value.int .i64 1, Value.int .i64 5, Value.int .i64 3, Value.int .i64 4, Value.int .i64 2].toArray 3 (0, 0))] :: [(q, ao4)] :: Cn :: G :: F) _ _
     refine qO <| qG (xM (r := q) (ob := ao4) (vis := vis) rfl (fun w hw => Own.get hw (inferInstance : At _ q ao4 _)) hal4 hio4) ?_
     rintro t56 _ (⟨rfl, hfin3, rfl⟩ | ⟨i, x, io', rfl, hq, hni, hio', rfl⟩)
     ·
      refine q9 (qf rfl rfl) <| qF <| qN <| wV rfl <| wa <| qr <| qt <| qh <| qe <| qJ <| qK <| q9 (w9 rfl rfl (by omega)) <| qA rfl <| qT <| w6 ⟨(j + 1, out, uo, Co), ?_⟩ ?_ ?_
      · (try dsimp only); exact ⟨by omega, hsl, outIs_end hkd hio4 hfin3 hag4 hoi⟩
      · (try dsimp only); omega
      · (try dsimp only); exact qX _
     ·
      refine q9 (qf rfl rfl) <| qF <| qN <| zM rfl <| qZ <| qJ <| qg <| qO <| q9 (x4 (r := q) (ob := ao4) (vis := vis) rfl (fun w hw => Own.get hw (inferInstance : At _ q ao4 _)) hal4 hio' hq) ?_
      refine q9 (qf rfl rfl) <| qG (qj) ?_
      rintro t9 _ ⟨b9, rfl, rfl⟩
      refine qR (wc (vs := [.int .i64 x.1.1, .int .i64 x.1.2]) rfl rfl rfl rfl) <| qF <| zY (Γ := {pΓ : (Bool) // (fun (b : Bool) => b = true ↔ (x.1.1 = kd ∧ XN n x.1)) pΓ}) (fun g => (fun (b : Bool) => [(0, .pointer (some ⟨p, 0, none⟩)), (3, .map (some q)), (6, uo), (8, .int .i64 kd), (9, .pointer (some ⟨b9, 0, none⟩)), (48, .slice (some ⟨b48, 0, none⟩) 5 5), (49, .int .i64 5), (50, .int .i64 j), (55, .pointer (some ⟨it3, 0, none⟩)), (76, .bool b)]) g.1) (fun g => (fun (b : Bool) => [(b9, .cells [.int .i64 x.1.1, .int .i64 x.1.2].toArray 100 (0, 0))] :: [(it3, io')] :: Co :: [(b48, .cells [Value.int .i64 1, Value.int .i64 5, Value.int .i64 3, Value.int .i64 4, Value.int .i64 2].toArray 3 (0, 0))] :: [(q, ao4)] :: Cn :: G :: F) g.1) ?_ ?_
      ·
       refine qK <| q9 (qB rfl) <| q9 (qI rfl rfl) <| qA rfl <| q9 (wn rfl rfl) <| qA rfl <| qY (s := 64) rfl (fun hg21_4 => ?_) (fun hg21_4 => ?_)
       ·
        refine qD rfl rfl (qP rfl) <| qD rfl rfl (wn rfl rfl) <| qD rfl rfl (qP rfl) <| qY (s := 67) rfl (fun hg21_7 => ?_) (fun hg21_7 => ?_)
        ·
         refine qL rfl rfl rfl <| qL rfl rfl rfl <| qD rfl rfl (qq rfl rfl) <| qD rfl rfl (qP rfl) <| qL rfl rfl rfl <| qL rfl rfl rfl <| qL rfl rfl rfl <| qD rfl rfl (qq rfl rfl) <| q9 (qq rfl rfl) <| qT <| qW ⟨_, ?_⟩ ?_
         · (try dsimp only); first | exact ⟨fun _ => ⟨hg21_4, .inl (by omega)⟩, fun _ => rfl⟩ | exact ⟨fun _ => ⟨hg21_4, .inr (.inl (by omega))⟩, fun _ => rfl⟩ | exact ⟨fun h => ⟨hg21_4, .inr (.inr h)⟩, fun h => (h.2.resolve_left (by omega)).resolve_left (by omega)⟩ | exact ⟨fun h => (by cases h), fun h => absurd h.1 hg21_4⟩
         · (try dsimp only); exact qX _
        ·
         refine qD rfl rfl (qP rfl) <| qD rfl rfl (wn rfl rfl) <| qD rfl rfl (qU rfl rfl) <| qD rfl rfl (qP rfl) <| qY (s := 71) rfl (fun hg21_11 => ?_) (fun hg21_11 => ?_)
         ·
          refine qL rfl rfl rfl <| qL rfl rfl rfl <| qL rfl rfl rfl <| qD rfl rfl (qq rfl rfl) <| q9 (qq rfl rfl) <| qT <| qW ⟨_, ?_⟩ ?_
          · (try dsimp only); first | exact ⟨fun _ => ⟨hg21_4, .inl (by omega)⟩, fun _ => rfl⟩ | exact ⟨fun _ => ⟨hg21_4, .inr (.inl (by omega))⟩, fun _ => rfl⟩ | exact ⟨fun h => ⟨hg21_4, .inr (.inr h)⟩, fun h => (h.2.resolve_left (by omega)).resolve_left (by omega)⟩ | exact ⟨fun h => (by cases h), fun h => absurd h.1 hg21_4⟩
          · (try dsimp only); exact qX _
         ·
          refine qD rfl rfl (qP rfl) <| qD rfl rfl (wW rfl) <| qD rfl rfl (wM rfl (k6 (Cn) (G) (Yg H p n Cn G hn hg hok x.1))) <| qD rfl rfl (qU rfl rfl) <| q9 (qq rfl rfl) <| qT <| qW ⟨_, ?_⟩ ?_
          · (try dsimp only); first | exact ⟨fun _ => ⟨hg21_4, .inl (by omega)⟩, fun _ => rfl⟩ | exact ⟨fun _ => ⟨hg21_4, .inr (.inl (by omega))⟩, fun _ => rfl⟩ | exact ⟨fun h => ⟨hg21_4, .inr (.inr h)⟩, fun h => (h.2.resolve_left (by omega)).resolve_left (by omega)⟩ | exact ⟨fun h => (by cases h), fun h => absurd h.1 hg21_4⟩
          · (try dsimp only); exact qX _
       ·
        refine qL rfl rfl rfl <| qL rfl rfl rfl <| qL rfl rfl rfl <| kx rfl rfl <| kx rfl rfl <| qL rfl rfl rfl <| qL rfl rfl rfl <| kx rfl rfl <| kx rfl rfl <| kx rfl rfl <| qL rfl rfl rfl <| q9 (qU rfl rfl) <| qT <| qW ⟨_, ?_⟩ ?_
        · (try dsimp only); first | exact ⟨fun _ => ⟨hg21_4, .inl (by omega)⟩, fun _ => rfl⟩ | exact ⟨fun _ => ⟨hg21_4, .inr (.inl (by omega))⟩, fun _ => rfl⟩ | exact ⟨fun h => ⟨hg21_4, .inr (.inr h)⟩, fun h => (h.2.resolve_left (by omega)).resolve_left (by omega)⟩ | exact ⟨fun h => (by cases h), fun h => absurd h.1 hg21_4⟩
        · (try dsimp only); exact qX _
      rintro ⟨b, hcut⟩
      replace hcut : b = true ↔ (x.1.1 = kd ∧ XN n x.1) := hcut
      have hb := hcut
      show Tr _ _ _ ([(0, .pointer (some ⟨p, 0, none⟩)), (3, .map (some q)), (6, uo), (8, .int .i64 kd), (9, .pointer (some ⟨b9, 0, none⟩)), (48, .slice (some ⟨b48, 0, none⟩) 5 5), (49, .int .i64 5), (50, .int .i64 j), (55, .pointer (some ⟨it3, 0, none⟩)), (76, .bool b)]) ([(b9, .cells [.int .i64 x.1.1, .int .i64 x.1.2].toArray 100 (0, 0))] :: [(it3, io')] :: Co :: [(b48, .cells [Value.int .i64 1, Value.int .i64 5, Value.int .i64 3, Value.int .i64 4, Value.int .i64 2].toArray 3 (0, 0))] :: [(q, ao4)] :: Cn :: G :: F) _ _
      refine yB rfl (fun hc20 => ?_) (fun hc20 => ?_)
      ·
       have hlen := WO hoi.1 (fun y hy => Zu hok ((hgk y).1 ((hoi.2 y).1 hy).1))
       refine qK <| qA rfl <| q9 (wW rfl) <| qG (wK rfl rfl rfl) ?_
       rintro t79 _ ⟨b79, rfl, rfl⟩
       refine qG (wg (m := 1) (sz := 2) rfl rfl hsl (wk (ys := zK x.1) inferInstance rfl rfl) rfl Tryz.underlying110 rfl rfl (by omega)) ?_
       rintro t80 _ ⟨C', hs', rfl⟩
       refine qE rfl <| qT <| qe <| w6 ⟨(vis ++ [i], io', out ++ [x.1], t80, C'), ?_⟩ ?_ ?_
       · (try dsimp only); exact ⟨hio', by rw [List.length_append, List.flatMap_append]; simpa using hs', outIs_in hal4.nodup hag4 hni (kinds5_fresh hkd) hq (hb.1 hc20) hoi⟩
       · (try dsimp only); exact jq hio'
       · (try dsimp only); exact qX _
      ·
       refine qZ <| qe <| w6 ⟨(vis ++ [i], io', out, uo, Co), ?_⟩ ?_ ?_
       · (try dsimp only); exact ⟨hio', hsl, outIs_out hq (fun h => by rw [hb.2 h] at hc20; cases hc20) hoi⟩
       · (try dsimp only); exact jq hio'
       · (try dsimp only); exact qX _
    ·
     refine wa <| qr <| qt <| qh <| qJ <| qO <| qG (kY) ?_
     rintro t82 _ ⟨b82, rfl, rfl⟩
     refine y1 (xC (r := b82) (q := (1 : Int)) (v := (0 : Int)) rfl rfl rfl (ka _ _)) ?_
     rintro _ _ ⟨o1, ho1, rfl⟩
     refine y1 (xC (r := b82) (q := (5 : Int)) (v := (1 : Int)) rfl rfl rfl ho1) ?_
     rintro _ _ ⟨o2, ho2, rfl⟩
     refine y1 (xC (r := b82) (q := (3 : Int)) (v := (2 : Int)) rfl rfl rfl ho2) ?_
     rintro _ _ ⟨o3, ho3, rfl⟩
     refine y1 (xC (r := b82) (q := (4 : Int)) (v := (3 : Int)) rfl rfl rfl ho3) ?_
     rintro _ _ ⟨o4, ho4, rfl⟩
     refine y1 (xC (r := b82) (q := (2 : Int)) (v := (4 : Int)) rfl rfl rfl ho4) ?_
     rintro _ _ ⟨o5, ho5, rfl⟩
     refine qA rfl <| qG (qj) ?_
     rintro t10 _ ⟨b10, rfl, rfl⟩
     refine qR (wu rfl rfl rfl) <| qF <| qN ?_
     have hj5 : j = 5 := by omega
     subst hj5
     have hlen := WO ho.1 (fun y hy => Zu hok ((hgk y).1 ((ho.2 y).1 hy).1))
     have hsrt := srtP_parts hok hgk ho
     refine qK <| qA rfl <| q9 (z6 rfl rfl) <| qG (w5 rfl (jD (Co) ([(b10, .cells [Value.map (some b82)].toArray 150 (0, 0))]) ([(b82, o5)]) (HP.sortF w0 _ uo out Co b10 b82 o5 hsl (by omega) (fun y hy => Zu hok ((hgk y).1 ((ho.2 y).1 hy).1)) ho5))) ?_
     rintro t86 _ ⟨rfl, C', hs', rfl⟩
     refine qm <| qA rfl <| qE rfl <| qF <| qy <| wC (C' :: Cn :: G :: F) (.inl rfl) rfl (qu rfl) ?_
     exact ⟨C', by rw [← hsrt, show (Y3 out).length = out.length from List.length_mergeSort out]; exact hs', rfl⟩
   ·
    refine q9 (qf rfl rfl) <| qF <| qN <| zM rfl <| qZ <| qJ <| qg <| qO <| q9 (x4 (r := q2) (ob := ao) (vis := vis) rfl (fun w hw => Own.get hw (inferInstance : At _ q2 ao _)) hal2 hio' hq) ?_
    refine q9 (qf rfl rfl) <| qG (qj) ?_
    rintro t5 _ ⟨b5, rfl, rfl⟩
    refine qR (wc (vs := [.int .i64 x.1.1, .int .i64 x.1.2]) rfl rfl rfl rfl) <| qm <| q9 (qB rfl) <| q9 (qI rfl rfl) <| q9 (wn rfl rfl) <| qF <| qM rfl (fun hc10 => ?_) (fun hc10 => ?_)
    ·
     refine qK <| qA rfl <| q9 (k0 (b := 1) (off := 0) (c := [Value.int .i64 4, Value.int .i64 0].toArray) (e := e1) (fr := f1) (r := [.int .i64 4, .int .i64 0]) rfl (by rw [hG]; simp) rfl (by decide)) ?_
     refine y1 (zL (r := q) (q := (4, 0)) (v := (1 : Int)) rfl rfl rfl hh) ?_
     rintro _ _ ⟨ao3, hh3, rfl⟩
     refine qT <| qe <| w6 ⟨(vis ++ [i], io', ao3, upd h (4, 0) (some 1)), ?_⟩ ?_ ?_
     · (try dsimp only); exact ⟨hio', hh3, (JZ hq hhk).1 hc10⟩
     · (try dsimp only); exact jq hio'
     · (try dsimp only); exact qX _
    ·
     refine qZ <| qe <| w6 ⟨(vis ++ [i], io', ao2, h), ?_⟩ ?_ ?_
     · (try dsimp only); exact ⟨hio', hh, (JZ hq hhk).2 hc10⟩
     · (try dsimp only); exact jq hio'
     · (try dsimp only); exact qX _
  ·
   refine q9 (qf rfl rfl) <| qF <| qN <| zM rfl <| qZ <| qJ <| qg <| qO <| q9 (x4 (r := md) (ob := od) (vis := vis) rfl (fun w hw => Own.get hw (inferInstance : At _ md od _)) hal hio' hq) ?_
   refine q9 (qf rfl rfl) <| qE rfl <| qm <| qA rfl <| qA rfl <| q9 (wX rfl) <| y1 (zL (r := q) (q := (1, x.1)) (v := (1 : Int)) rfl rfl rfl hf) ?_
   rintro _ _ ⟨ao', hf', rfl⟩
   refine qF <| qK <| qA rfl <| qA rfl <| q9 (wM rfl (zk (G) (Zx x.1 G hg (by have := hok.data x.1 (by rw [← hag, x6 hal.nodup (List.mem_of_getElem? hq)]; simp); omega)))) ?_
   refine y1 (zL (r := q) (q := ww x.1) (v := (1 : Int)) rfl rfl rfl hf') ?_
   rintro _ _ ⟨ao2, hf2, rfl⟩
   refine qT <| qe <| w6 ⟨(vis ++ [i], io', ao2, upd (upd f (1, x.1) (some 1)) (ww x.1) (some 1)), ?_⟩ ?_ ?_
   · (try dsimp only); exact ⟨hio', hf2, all0_step hq hfk⟩
   · (try dsimp only); exact jq hio'
   · (try dsimp only); exact qX _
abbrev WC (num ver : Int) (k : Int × Int) : List Value := [.int .i64 k.1, .int .u32 num, .int .u32 ver, .int .i64 k.2]
instance (num ver : Int) (k : Int × Int) : LenC (WC num ver k) 4 := ⟨rfl⟩
theorem Wg (p : Nat) (n : NS) (Cn : qV) (hn : Wm p n Cn) (k : Int × Int) :
    FnT Tryz.prog w0 47 #[.pointer (some ⟨p, 0, none⟩), yN k] (Cn :: F) (fun v L' => v = .agg (WC n.num n.ver k).toArray ∧ L' = Cn :: F) := by
  refine KK hn ?_
  intro ma md ms oa od os u C hm
  unfold kk zO yN
  refine qi (E0 := [(0, _), (1, _)]) (N := 18) Tryz.func47 rfl rfl rfl rfl ?_
  refine qO <| qG (wq rfl) ?_
  rintro t3 _ ⟨b3, rfl, rfl⟩
  refine qG (qj) ?_
  rintro t4 _ ⟨b4, rfl, rfl⟩
  refine qF <| qN <| wT wB <| wD [(5, .pure _), (6, .pure _), (7, .pure _), (8, .pure _), (9, .pure _), (10, .pure _), (11, .pure _), (12, .pure _), (13, .pure _), (14, .pure _), (15, .pure _), (16, .pure _)] (by kernel_rfl) rfl rfl rfl wm (qC rfl (fun X => qB rfl) <| qC rfl (fun X => qI rfl rfl) <| qC rfl (fun X => qP rfl) <| qC rfl (fun X => qQ rfl) <| qC rfl (fun X => qB rfl) <| qC rfl (fun X => qI rfl rfl) <| qC rfl (fun X => qP rfl) <| qC rfl (fun X => qQ rfl) <| qC rfl (fun X => qB rfl) <| qC rfl (fun X => qI rfl rfl) <| qC rfl (fun X => qB rfl) <| qC rfl (fun X => qI rfl rfl) <| ParH.nil rfl) ?_
  dsimp only [ze, List.drop, List.length]
  refine wE (by kernel_rfl) (wX rfl) ?_
  refine kT (by kernel_rfl) (wc rfl rfl rfl rfl) ?_
  refine wI <| qJ <| qy <| wC ([(p, .cells [.int .u32 n.num, .int .u32 n.ver, .int .i64 n.kind, .int .i64 n.size, .int .u32 n.time, .map (some ma), .map (some md), .map (some ms), u].toArray 90 (0, 0))] :: [(ma, oa)] :: [(md, od)] :: [(ms, os)] :: C :: F) (.inl rfl) rfl (zU rfl) ?_
  exact ⟨rfl, rfl⟩
theorem KD (H : jL w0) (HP : QA) (p : Nat) (n : NS) (Cn G : qV) (hn : NodeC p n Cn) (hg : kj G) (hok : NOk n) :
    FnT Tryz.prog w0 15 #[.pointer (some ⟨p, 0, none⟩)] (Cn :: G :: F) (fun v L' => ∃ C', SlC 62 4 v (yO n).length ((yO n).flatMap (WC n.num n.ver)) C' ∧ L' = C' :: Cn :: G :: F) := by
  obtain ⟨l, hl⟩ : ∃ l, yO n = l := ⟨_, rfl⟩
  have hlen : l.length ≤ 1099 := by
    rw [← hl]; unfold yO
    refine Nat.le_trans (List.length_filter_le _ _) ?_
    simp [allParts]
  refine qi (E0 := [(0, _)]) (N := 21) Tryz.func15 rfl rfl rfl rfl ?_
  refine qO <| qE rfl <| qm <| qE rfl <| qF <| qN <| qO <| qA rfl <| qG (w5 rfl (kG (Cn) (G) (xJ H HP p n Cn G hn hg hok))) ?_
  rintro t7 _ ⟨Cp, hs, rfl⟩
  rw [hl] at hs ⊢
  obtain ⟨px, cx, rfl⟩ := hs.slice
  refine q9 (w8 rfl) <| qA rfl <| qF <| qg <| wS (Γ := {pΓ : (Nat) × (Value) × (qV) // (fun (i : Nat) (uo : Value) (Co : qV) => i ≤ l.length ∧ SlC 62 4 uo i ((l.take i).flatMap (WC n.num n.ver)) Co) pΓ.1 pΓ.2.1 pΓ.2.2}) (fun g => (fun (i : Nat) (uo : Value) (Co : qV) => [(0, .pointer (some ⟨p, 0, none⟩)), (3, uo), (7, .slice px l.length cx), (8, .int .i64 l.length), (9, .int .i64 i)]) g.1.1 g.1.2.1 g.1.2.2) (fun g => (fun (i : Nat) (uo : Value) (Co : qV) => Co :: Cp :: Cn :: G :: F) g.1.1 g.1.2.1 g.1.2.2) (fun g => (fun (i : Nat) (uo : Value) (Co : qV) => l.length - i) g.1.1 g.1.2.1 g.1.2.2) ⟨(0, .slice none 0 0, []), by dsimp only; exact ⟨by omega, SlC.nil _ _⟩⟩ (qX _) ?_
  rintro ⟨⟨i, uo, Co⟩, hloop⟩
  replace hloop : i ≤ l.length ∧ SlC 62 4 uo i ((l.take i).flatMap (WC n.num n.ver)) Co := hloop
  obtain ⟨hi, hsl⟩ := hloop
  show Tr _ _ _ ([(0, .pointer (some ⟨p, 0, none⟩)), (3, uo), (7, .slice px l.length cx), (8, .int .i64 l.length), (9, .int .i64 i)]) (Co :: Cp :: Cn :: G :: F) _ _
  refine qO <| q9 (wJ rfl rfl) <| qF <| qN <| qM rfl (fun hc3 => ?_) (fun hc3 => ?_)
  ·
   refine qZ <| qJ <| qN <| qg <| qN ?_
   obtain ⟨q, hq⟩ : ∃ q, l[i]? = some q := ⟨_, List.getElem?_eq_getElem (by omega)⟩
   refine qK <| qG (yD (j := i) rfl rfl hs (by omega) (by omega)) ?_
   rintro t11 _ ⟨b, cap, spare, hqc, rfl, hcap, hnc, rfl, rfl⟩
   refine q9 (zC (j := i) y9 rfl hq rfl) <| qG (qj) ?_
   rintro t5 _ ⟨b5, rfl, rfl⟩
   refine qR (qo (l := [Value.int .i64 0, Value.int .i64 0]) (vs := [.int .i64 q.1, .int .i64 q.2]) rfl rfl rfl rfl rfl) <| qF <| qK <| qA rfl <| qA rfl <| q9 (wW rfl) <| q9 (wM rfl (zk (Cn) (Wg p n Cn (JF hn) q))) <| qG (wK rfl rfl rfl) ?_
   rintro t17 _ ⟨b17, rfl, rfl⟩
   refine qG (wg (m := 1) (sz := 4) rfl rfl hsl (wk (ys := WC n.num n.ver q) inferInstance rfl rfl) rfl Tryz.underlying51 rfl rfl (by omega)) ?_
   rintro t18 _ ⟨C', hs', rfl⟩
   refine qE rfl <| qT <| qe <| qJ <| qK <| q9 (w9 rfl rfl (by omega)) <| qA rfl <| qT <| w6 ⟨(i + 1, t18, C'), ?_⟩ ?_ ?_
   · (try dsimp only); exact ⟨by omega, by rw [List.take_add_one, hq, List.flatMap_append]; simpa using hs'⟩
   · (try dsimp only); omega
   · (try dsimp only); exact qX _
  ·
   refine wa <| qr <| qt <| qh <| qJ <| qO <| qA rfl <| qE rfl <| qF <| qy <| wC (Co :: Cn :: G :: F) (.inl rfl) rfl (qu rfl) ?_
   have hil : i = l.length := by omega
   rw [hil, List.take_length] at hsl
   exact ⟨Co, hsl, rfl⟩
def WH (i : Int) : List (Int × Int × Int) :=
  wG i :: ((if (wG i).1 ≠ 0 then [((wG i).1, (wG i).2.1, -1)] else []) ++ (if (wG i).1 = 2 then [(2, -1, -1)] else []))
def kM (s : List (Int × Int × Int)) (x : Int × Int × Int) : List (Int × Int × Int) := if x ∈ s then s else s ++ [x]
def xy (xs : List Int) : List (Int × Int × Int) := (xs.flatMap WH).foldl kM []
def JS (xs : List Int) : Int := 1 + (xy xs).length
def YP (f : Int × Int × Int → Option Int) (s : List (Int × Int × Int)) (m : Nat) : Prop := (∀ k, f k ≠ none ↔ k ∈ s) ∧ (∀ k v, f k = some v → 1 ≤ v ∧ v ≤ m) ∧ s.length ≤ m
theorem seenAdd_len (s : List (Int × Int × Int)) (x : Int × Int × Int) : (kM s x).length ≤ s.length + 1 := by
  unfold kM; split <;> simp
theorem seen_step {f : Int × Int × Int → Option Int} {s : List (Int × Int × Int)} {m : Nat} (h : YP f s m) (x : Int × Int × Int) :
    YP (upd f x (some ((f x).getD 0 + 1))) (kM s x) (m + 1) ∧ ((f x).getD 0 + 1 = 1 ↔ x ∉ s) ∧ 0 ≤ (f x).getD 0 ∧ (f x).getD 0 ≤ m := by
  obtain ⟨h1, h2, h0⟩ := h
  have hb : 0 ≤ (f x).getD 0 ∧ (f x).getD 0 ≤ m := by
    cases e : f x with
    | none => simp
    | some v => have := h2 x v e; simp; omega
  refine ⟨⟨fun k => ?_, fun k v hv => ?_, by have := seenAdd_len s x; omega⟩, ?_, hb.1, hb.2⟩
  · unfold kM upd
    by_cases e : k = x
    · subst e; simp only [if_true]; split <;> simp_all
    · rw [if_neg e, h1]; split <;> simp [e]
  · unfold upd at hv
    by_cases e : k = x
    · rw [if_pos e] at hv; cases hv; omega
    · rw [if_neg e] at hv; have := h2 k v hv; omega
  · have := h1 x
    cases e : f x with
    | none => rw [e] at this; simp at this; simp [this]
    | some v =>
      have h3 := h2 x v e
      rw [e] at this; simp at this
      simp [this]; omega
theorem add_ok (bm r bc : Nat) (o : Obj) (f : Int × Int × Int → Option Int) (hf : MapF xH (Value.int .i64) f o) (x : Int × Int × Int) (c : Int) (hc : 0 ≤ c ∧ c ≤ 1000000) (hx : 0 ≤ (f x).getD 0 ∧ (f x).getD 0 ≤ 1000000) :
    FnT Tryz.prog w0 86 #[xH x, .pointer (some ⟨bm, 0, none⟩), .pointer (some ⟨bc, 0, none⟩)] ([(bm, .cells [Value.map (some r)].toArray 159 (0, 0))] :: [(r, o)] :: [(bc, .cells [Value.int .i64 c].toArray 3 (0, 0))] :: F)
      (fun v L' => v = .tuple #[] ∧ ∃ o', MapF xH (Value.int .i64) (upd f x (some ((f x).getD 0 + 1))) o' ∧ L' = [(bm, .cells [Value.map (some r)].toArray 159 (0, 0))] :: [(r, o')] :: [(bc, .cells [Value.int .i64 (if (f x).getD 0 + 1 = 1 then c + 1 else c)].toArray 3 (0, 0))] :: F) := by
  obtain ⟨al, hal, hag⟩ := id hf
  unfold xH
  refine qi (E0 := [(0, _), (1, _), (2, _)]) (N := 16) Tryz.func86 rfl rfl rfl rfl ?_
  refine qO <| qG (wq rfl) ?_
  rintro t3 _ ⟨b3, rfl, rfl⟩
  refine qF <| zY (Γ := {pΓ : (Obj) // (fun (o2 : Obj) => MapF xH (Value.int .i64) (upd f x (some ((f x).getD 0 + 1))) o2) pΓ}) (fun g => (fun (o2 : Obj) => [(1, .pointer (some ⟨bm, 0, none⟩)), (2, .pointer (some ⟨bc, 0, none⟩)), (3, .pointer (some ⟨b3, 0, none⟩))]) g.1) (fun g => (fun (o2 : Obj) => [(b3, .cells [.int .i64 x.1, .int .i64 x.2.1, .int .i64 x.2.2].toArray 160 (0, 0))] :: [(bm, .cells [Value.map (some r)].toArray 159 (0, 0))] :: [(r, o2)] :: [(bc, .cells [Value.int .i64 c].toArray 3 (0, 0))] :: F) g.1) ?_ ?_
  ·
   refine yb wB (show TrS _ _ _ _ [false, false, false, false, false, false, false] _ _ _ from ?_)
   refine wv (i := 0) (j := 1) (by kernel_rfl) rfl ?_ ?_
   ·
    refine qd rfl rfl rfl (qI rfl rfl) <| qS 1 rfl <| qd rfl rfl rfl (wW rfl) <| wv (i := 2) (j := 4) (by kernel_rfl) rfl ?_ ?_
    ·
     refine qd rfl rfl rfl (W2 (z := (0 : Int)) (q := x) (v := (f x).getD 0) rfl rfl hf rfl) <| wv (i := 3) (j := 4) (by kernel_rfl) rfl ?_ ?_
     ·
      refine qd rfl rfl rfl (w9 rfl rfl (by omega)) <| qS 4 rfl <| w7 rfl rfl rfl (jp (q := x) (zv := (0 : Int)) rfl rfl hal) ?_
      rintro t8 _ ⟨o1, st, rfl, hst, rfl⟩
      refine qH 5 rfl rfl rfl (qk rfl rfl) <| qS 6 rfl <| xv rfl rfl rfl (j5 (q := x) (v := (f x).getD 0 + 1) rfl rfl rfl hst) ?_
      rintro _ _ ⟨o2, ho2, rfl⟩
      refine wF <| qW ⟨o2, ?_⟩ ?_
      · (try dsimp only); exact ⟨_, ho2, fun k => by rw [yl, yl]; unfold upd; split <;> simp [*]⟩
      · (try dsimp only); exact qX _
     ·
      refine w7 rfl rfl rfl (jp (q := x) (zv := (0 : Int)) rfl rfl hal) ?_
      rintro t8 _ ⟨o1, st, rfl, hst, rfl⟩
      refine qH 5 rfl rfl rfl (qk rfl rfl) <| qS 3 rfl <| qd rfl rfl rfl (w9 rfl rfl (by omega)) <| qS 6 rfl <| xv rfl rfl rfl (j5 (q := x) (v := (f x).getD 0 + 1) rfl rfl rfl hst) ?_
      rintro _ _ ⟨o2, ho2, rfl⟩
      refine wF <| qW ⟨o2, ?_⟩ ?_
      · (try dsimp only); exact ⟨_, ho2, fun k => by rw [yl, yl]; unfold upd; split <;> simp [*]⟩
      · (try dsimp only); exact qX _
    ·
     refine w7 rfl rfl rfl (jp (q := x) (zv := (0 : Int)) rfl rfl hal) ?_
     rintro t8 _ ⟨o1, st, rfl, hst, rfl⟩
     refine qH 5 rfl rfl rfl (qk rfl rfl) <| qS 2 rfl <| qd rfl rfl rfl (W2 (z := (0 : Int)) (q := x) (v := (f x).getD 0) (f := upd f x (some ((yA al x).getD 0))) rfl rfl (K2 hst hag) (by rw [zQ, hag]; rfl)) ?_
     refine qS 3 rfl <| qd rfl rfl rfl (w9 rfl rfl (by omega)) <| qS 6 rfl <| xv rfl rfl rfl (j5 (q := x) (v := (f x).getD 0 + 1) rfl rfl rfl hst) ?_
     rintro _ _ ⟨o2, ho2, rfl⟩
     refine wF <| qW ⟨o2, ?_⟩ ?_
     · (try dsimp only); exact ⟨_, ho2, fun k => by rw [yl, yl]; unfold upd; split <;> simp [*]⟩
     · (try dsimp only); exact qX _
   ·
    refine qd rfl rfl rfl (wW rfl) <| qS 0 rfl <| qd rfl rfl rfl (qI rfl rfl) <| wv (i := 2) (j := 4) (by kernel_rfl) rfl ?_ ?_
    ·
     refine qd rfl rfl rfl (W2 (z := (0 : Int)) (q := x) (v := (f x).getD 0) rfl rfl hf rfl) <| wv (i := 3) (j := 4) (by kernel_rfl) rfl ?_ ?_
     ·
      refine qd rfl rfl rfl (w9 rfl rfl (by omega)) <| qS 4 rfl <| w7 rfl rfl rfl (jp (q := x) (zv := (0 : Int)) rfl rfl hal) ?_
      rintro t8 _ ⟨o1, st, rfl, hst, rfl⟩
      refine qH 5 rfl rfl rfl (qk rfl rfl) <| qS 6 rfl <| xv rfl rfl rfl (j5 (q := x) (v := (f x).getD 0 + 1) rfl rfl rfl hst) ?_
      rintro _ _ ⟨o2, ho2, rfl⟩
      refine wF <| qW ⟨o2, ?_⟩ ?_
      · (try dsimp only); exact ⟨_, ho2, fun k => by rw [yl, yl]; unfold upd; split <;> simp [*]⟩
      · (try dsimp only); exact qX _
     ·
      refine w7 rfl rfl rfl (jp (q := x) (zv := (0 : Int)) rfl rfl hal) ?_
      rintro t8 _ ⟨o1, st, rfl, hst, rfl⟩
      refine qH 5 rfl rfl rfl (qk rfl rfl) <| qS 3 rfl <| qd rfl rfl rfl (w9 rfl rfl (by omega)) <| qS 6 rfl <| xv rfl rfl rfl (j5 (q := x) (v := (f x).getD 0 + 1) rfl rfl rfl hst) ?_
      rintro _ _ ⟨o2, ho2, rfl⟩
      refine wF <| qW ⟨o2, ?_⟩ ?_
      · (try dsimp only); exact ⟨_, ho2, fun k => by rw [yl, yl]; unfold upd; split <;> simp [*]⟩
      · (try dsimp only); exact qX _
    ·
     refine w7 rfl rfl rfl (jp (q := x) (zv := (0 : Int)) rfl rfl hal) ?_
     rintro t8 _ ⟨o1, st, rfl, hst, rfl⟩
     refine qH 5 rfl rfl rfl (qk rfl rfl) <| qS 2 rfl <| qd rfl rfl rfl (W2 (z := (0 : Int)) (q := x) (v := (f x).getD 0) (f := upd f x (some ((yA al x).getD 0))) rfl rfl (K2 hst hag) (by rw [zQ, hag]; rfl)) ?_
     refine qS 3 rfl <| qd rfl rfl rfl (w9 rfl rfl (by omega)) <| qS 6 rfl <| xv rfl rfl rfl (j5 (q := x) (v := (f x).getD 0 + 1) rfl rfl rfl hst) ?_
     rintro _ _ ⟨o2, ho2, rfl⟩
     refine wF <| qW ⟨o2, ?_⟩ ?_
     · (try dsimp only); exact ⟨_, ho2, fun k => by rw [yl, yl]; unfold upd; split <;> simp [*]⟩
     · (try dsimp only); exact qX _
  rintro ⟨o2, hcut⟩
  replace hcut : MapF xH (Value.int .i64) (upd f x (some ((f x).getD 0 + 1))) o2 := hcut
  have hf2 := hcut
  show Tr _ _ _ ([(1, .pointer (some ⟨bm, 0, none⟩)), (2, .pointer (some ⟨bc, 0, none⟩)), (3, .pointer (some ⟨b3, 0, none⟩))]) ([(b3, .cells [.int .i64 x.1, .int .i64 x.2.1, .int .i64 x.2.2].toArray 160 (0, 0))] :: [(bm, .cells [Value.map (some r)].toArray 159 (0, 0))] :: [(r, o2)] :: [(bc, .cells [Value.int .i64 c].toArray 3 (0, 0))] :: F) _ _
  refine qO <| q9 (qI rfl rfl) <| q9 (wW rfl) <| q9 (yP (z := 0) (q := x) rfl rfl hf2) <| q9 (wn rfl rfl) <| qT ?_
  rw [zQ]
  refine qJ <| qM rfl (fun hc2 => ?_) (fun hc2 => ?_)
  ·
   refine qK <| q9 (qI rfl rfl) <| q9 (w9 rfl rfl (by omega)) <| qR (wu rfl rfl rfl) <| qT <| kA ([(bm, .cells [Value.map (some r)].toArray 159 (0, 0))] :: [(r, o2)] :: [(bc, .cells [Value.int .i64 (c + 1)].toArray 3 (0, 0))] :: F) (.inr rfl) rfl  ?_
   exact ⟨rfl, o2, hf2, by rw [if_pos (show (f x).getD 0 + 1 = 1 from hc2)]⟩
  ·
   refine qZ <| kA ([(bm, .cells [Value.map (some r)].toArray 159 (0, 0))] :: [(r, o2)] :: [(bc, .cells [Value.int .i64 c].toArray 3 (0, 0))] :: F) (.inr rfl) rfl  ?_
   exact ⟨rfl, o2, hf2, by rw [if_neg (show ¬ (f x).getD 0 + 1 = 1 from hc2)]⟩
theorem Ve {P : Program} {f : FuncId} {vs : List Value} {c d : Value} {R : Value → Res → Prop} [he : Enters P f] (h : FnT P w0 f (vs ++ [c, d]).toArray L R) : FnV P w0 (.func (.func f) #[] #[c, d]) vs L R := by
  have := Wo (first := []) (captured := [c, d]) (vs := vs) (f := f) (P := P) (w0 := w0) (L := L) (R := R) (by simpa using h)
  exact this
theorem XC {P : Program} {g : Value} {vs : List Value} {R : Value → Res → Prop} (c1 c2 c3 : qV) [ht : Take L [c1, c2, c3] F] (h : FnV P w0 g vs (c1 :: c2 :: c3 :: F) R) : FnV P w0 g vs L R :=
  FnV.pre h fun _ hw => hw.perm ht.perm
theorem X8 (bm r bc : Nat) (o : Obj) (f : Int × Int × Int → Option Int) (hf : MapF xH (Value.int .i64) f o) (s : List (Int × Int × Int)) (m : Nat) (hs : YP f s m) (hm : m ≤ 900000) (x : Int × Int × Int) :
    FnV Tryz.prog w0 (.func (.func 86) #[] #[.pointer (some ⟨bm, 0, none⟩), .pointer (some ⟨bc, 0, none⟩)]) [xH x] ([(bm, .cells [Value.map (some r)].toArray 159 (0, 0))] :: [(r, o)] :: [(bc, .cells [Value.int .i64 (1 + s.length)].toArray 3 (0, 0))] :: F)
      (fun v L' => v = .tuple #[] ∧ ∃ o' f', MapF xH (Value.int .i64) f' o' ∧ YP f' (kM s x) (m + 1) ∧ L' = [(bm, .cells [Value.map (some r)].toArray 159 (0, 0))] :: [(r, o')] :: [(bc, .cells [Value.int .i64 (1 + (kM s x).length)].toArray 3 (0, 0))] :: F) := by
  have hst := seen_step hs x
  have hlen := hs.2.2
  refine Ve ((add_ok bm r bc o f hf x (1 + s.length) (by omega) (by have := hst.2.2; omega)).mono fun v L' h => ?_)
  obtain ⟨rfl, o', ho', rfl⟩ := h
  refine ⟨rfl, o', _, ho', hst.1, ?_⟩
  congr 5
  by_cases hx : x ∈ s
  · rw [if_neg (fun e => hst.2.1.1 e hx)]; unfold kM; rw [if_pos hx]
  · rw [if_pos (hst.2.1.2 hx)]; unfold kM; rw [if_neg hx]; simp; omega
theorem seenL_snoc (xs : List Int) (i : Nat) (q : Int) (hq : xs[i]? = some q) : xy (xs.take (i + 1)) = (WH q).foldl kM (xy (xs.take i)) := by
  unfold xy
  rw [List.take_add_one, hq, List.flatMap_append, List.foldl_append]; simp
theorem cost_ok (xs : List Int) (u : Value) (C : qV) (hs : SlC 3 1 u xs.length (iV xs) C) (hx : ∀ x ∈ xs, 0 ≤ x ∧ x < 1064) (hl : xs.length ≤ 1064) :
    FnT Tryz.prog w0 52 #[u] (C :: F) (fun v L' => v = .int .i64 (JS xs) ∧ L' = C :: F) := by
  obtain ⟨pu, cu, hu⟩ := hs.slice
  refine qi (E0 := [(0, _)]) (N := 48) Tryz.func52 rfl rfl rfl rfl ?_
  refine qO <| qE rfl <| qm <| qG (kY) ?_
  rintro t10 _ ⟨b10, rfl, rfl⟩
  refine qG (qj) ?_
  rintro t3 _ ⟨b3, rfl, rfl⟩
  refine qR (wu rfl rfl rfl) <| qm <| qG (qj) ?_
  rintro t4 _ ⟨b4, rfl, rfl⟩
  refine qR (wu rfl rfl rfl) <| qm <| q9 (z6 rfl rfl) <| qE rfl <| qF <| qN <| qO <| qA rfl <| q9 (w8 (by rw [← hu]; rfl)) ?_
  refine qA rfl <| qF <| qg <| wS (Γ := {pΓ : (Nat) × (Obj) × (Int × Int × Int → Option Int) // (fun (i : Nat) (o : Obj) (f : Int × Int × Int → Option Int) => i ≤ xs.length ∧ MapF xH (Value.int .i64) f o ∧ YP f (xy (xs.take i)) (3 * i)) pΓ.1 pΓ.2.1 pΓ.2.2}) (fun g => (fun (i : Nat) (o : Obj) (f : Int × Int × Int → Option Int) => [(4, .pointer (some ⟨b4, 0, none⟩)), (5, .func (.func 86) #[] #[.pointer (some ⟨b3, 0, none⟩), .pointer (some ⟨b4, 0, none⟩)]), (12, u), (13, .int .i64 xs.length), (14, .int .i64 i)]) g.1.1 g.1.2.1 g.1.2.2) (fun g => (fun (i : Nat) (o : Obj) (f : Int × Int × Int → Option Int) => [(b3, .cells [Value.map (some b10)].toArray 159 (0, 0))] :: [(b10, o)] :: [(b4, .cells [Value.int .i64 (1 + (xy (xs.take i)).length)].toArray 3 (0, 0))] :: C :: F) g.1.1 g.1.2.1 g.1.2.2) (fun g => (fun (i : Nat) (o : Obj) (f : Int × Int × Int → Option Int) => xs.length - i) g.1.1 g.1.2.1 g.1.2.2) ⟨(0, _, fun _ => none), by dsimp only; exact ⟨by omega, ka _ _, ⟨fun k => (by simp [xy]), fun k v h => (by cases h), (by simp [xy])⟩⟩⟩ ((qX ([(b3, .cells [Value.map (some b10)].toArray 159 (0, 0))] :: [(b10, .map #[] 0)] :: [(b4, .cells [Value.int .i64 1].toArray 3 (0, 0))] :: C :: F))) ?_
  rintro ⟨⟨i, o, f⟩, hloop⟩
  replace hloop : i ≤ xs.length ∧ MapF xH (Value.int .i64) f o ∧ YP f (xy (xs.take i)) (3 * i) := hloop
  obtain ⟨hi, hf, hso⟩ := hloop
  show Tr _ _ _ ([(4, .pointer (some ⟨b4, 0, none⟩)), (5, .func (.func 86) #[] #[.pointer (some ⟨b3, 0, none⟩), .pointer (some ⟨b4, 0, none⟩)]), (12, u), (13, .int .i64 xs.length), (14, .int .i64 i)]) ([(b3, .cells [Value.map (some b10)].toArray 159 (0, 0))] :: [(b10, o)] :: [(b4, .cells [Value.int .i64 (1 + (xy (xs.take i)).length)].toArray 3 (0, 0))] :: C :: F) _ _
  refine qO <| q9 (wJ rfl rfl) <| qF <| qN <| qM rfl (fun hc5 => ?_) (fun hc5 => ?_)
  ·
   refine qZ <| qJ <| qN <| qg <| qN ?_
   obtain ⟨q, hq⟩ : ∃ q, xs[i]? = some q := ⟨_, List.getElem?_eq_getElem (by omega)⟩
   have hqr := hx q (List.mem_of_getElem? hq)
   have hsn := seenL_snoc xs i q hq
   obtain ⟨s, hse⟩ : ∃ s, xy (xs.take i) = s := ⟨_, rfl⟩
   rw [hse] at hso hsn ⊢
   obtain ⟨pl, hpl⟩ : ∃ pl, wG q = pl := ⟨_, rfl⟩
   unfold WH at hsn
   rw [hpl] at hsn
   refine qK <| qG (yD (j := i) rfl rfl hs (by omega) (by omega)) ?_
   rintro t16 _ ⟨b, cap, spare, hqc, rfl, hcap, hnc, rfl, rfl⟩
   refine q9 (qI rfl (show wY _ _ = some (.int .i64 q) by rw [zB, Nat.mul_one, List.getElem?_append_left (by simp [iV]; omega)]; simp [iV, hq])) ?_
   refine qE rfl <| qm <| qA rfl <| q9 (wM rfl (VO q (by omega))) ?_
   rw [hpl]
   refine qA rfl <| q9 (qf rfl rfl) <| q9 (qf rfl rfl) <| qG (qj) ?_
   rintro t8 _ ⟨b8, rfl, rfl⟩
   refine qR (wc (vs := [.int .i64 pl.1, .int .i64 pl.2.1, .int .i64 pl.2.2]) rfl rfl rfl rfl) <| qE rfl <| qF <| qN <| qO <| qA rfl <| q9 (zE rfl rfl) <| qF <| qM rfl (fun hc8 => ?_) (fun hc8 => ?_)
   · exact absurd hc8 (by unfold xA; rw [if_neg (by omega), if_pos (by omega)]; simp)
   ·
    refine qZ <| qJ <| qO <| qA rfl <| q9 (wW rfl) <| qG (kP rfl rfl (XC ([(b3, .cells [Value.map (some b10)].toArray 159 (0, 0))]) ([(b10, o)]) ([(b4, .cells [Value.int .i64 (1 + s.length)].toArray 3 (0, 0))]) (X8 b3 b10 b4 o f hf s (3 * i) hso (by omega) pl))) ?_
    rintro t27 _ ⟨rfl, o1, f1, hf1, hso1, rfl⟩
    refine qF <| qN <| qO <| q9 (qB rfl) <| q9 (qI rfl rfl) <| q9 (zE rfl rfl) <| qF <| qM rfl (fun hc10 => ?_) (fun hc10 => ?_)
    ·
     refine qK <| qA rfl <| q9 (qB rfl) <| q9 (qI rfl rfl) <| q9 (qB rfl) <| q9 (qI rfl rfl) <| q9 (wX rfl) <| qG (kP rfl rfl (XC ([(b3, .cells [Value.map (some b10)].toArray 159 (0, 0))]) ([(b10, o1)]) ([(b4, .cells [Value.int .i64 (1 + (kM s pl).length)].toArray 3 (0, 0))]) (X8 b3 b10 b4 o1 f1 hf1 _ _ hso1 (by omega) (pl.1, pl.2.1, -1)))) ?_
     rintro t37 _ ⟨rfl, o2, f2, hf2, hso2, rfl⟩
     refine qm <| q9 (qB rfl) <| q9 (qI rfl rfl) <| q9 (wn rfl rfl) <| qF <| qM rfl (fun hc12 => ?_) (fun hc12 => ?_)
     ·
      rw [if_pos hc10, if_pos hc12, ← hc12] at hsn; simp only [List.cons_append, List.nil_append, List.foldl_cons, List.foldl_nil] at hsn
      refine qK <| qA rfl <| q9 (qB rfl) <| q9 (qI rfl rfl) <| q9 (wX rfl) <| qG (kP rfl rfl (XC ([(b3, .cells [Value.map (some b10)].toArray 159 (0, 0))]) ([(b10, o2)]) ([(b4, .cells [Value.int .i64 (1 + (kM (kM s pl) (pl.1, pl.2.1, -1)).length)].toArray 3 (0, 0))]) (X8 b3 b10 b4 o2 f2 hf2 _ _ hso2 (by omega) (pl.1, -1, -1)))) ?_
      rintro t45 _ ⟨rfl, o3, f3, hf3, hso3, rfl⟩
      refine qT <| qe <| qJ <| qK <| q9 (w9 rfl rfl (by omega)) <| qA rfl <| qT <| w6 ⟨(i + 1, o3, f3), ?_⟩ ?_ ?_
      · (try dsimp only); rw [hsn]; exact ⟨by omega, hf3, hso3⟩
      · (try dsimp only); omega
      · (try dsimp only); exact (by rw [hsn]; exact qX _)
     ·
      rw [if_pos hc10, if_neg hc12] at hsn; simp only [List.append_nil, List.nil_append, List.foldl_cons, List.foldl_nil] at hsn
      refine qZ <| qe <| qJ <| qK <| q9 (w9 rfl rfl (by omega)) <| qA rfl <| qT <| w6 ⟨(i + 1, o2, f2), ?_⟩ ?_ ?_
      · (try dsimp only); rw [hsn]; exact ⟨by omega, hf2, ⟨hso2.1, fun k v h => by have := hso2.2.1 k v h; omega, by have := hso2.2.2; omega⟩⟩
      · (try dsimp only); omega
      · (try dsimp only); exact (by rw [hsn]; exact qX _)
    ·
     refine qZ <| qJ <| qO <| q9 (qB rfl) <| q9 (qI rfl rfl) <| q9 (wn rfl rfl) <| qF <| qM rfl (fun hc12 => ?_) (fun hc12 => ?_)
     · (exfalso; omega)
     ·
      rw [if_neg hc10, if_neg hc12] at hsn; simp only [List.append_nil, List.nil_append, List.foldl_cons, List.foldl_nil] at hsn
      refine qZ <| qe <| qJ <| qK <| q9 (w9 rfl rfl (by omega)) <| qA rfl <| qT <| w6 ⟨(i + 1, o1, f1), ?_⟩ ?_ ?_
      · (try dsimp only); rw [hsn]; exact ⟨by omega, hf1, ⟨hso1.1, fun k v h => by have := hso1.2.1 k v h; omega, by have := hso1.2.2; omega⟩⟩
      · (try dsimp only); omega
      · (try dsimp only); exact (by rw [hsn]; exact qX _)
  ·
   refine wa <| qr <| qt <| qh <| qJ <| qN ?_
   rw [List.take_of_length_le (by omega)]
   refine qK <| q9 (qI rfl rfl) <| qE rfl <| qF <| qy <| wC (C :: F) (.inl rfl) rfl (qu rfl) ?_
   exact ⟨rfl, rfl⟩
theorem Zn (H : jL w0) (p : Nat) (n : NS) (Cn : qV) (hn : NodeC p n Cn) (hok : NOk n) : FnT Tryz.prog w0 17 #[.pointer (some ⟨p, 0, none⟩)] (Cn :: F) (fun v L' => v = .int .i64 (JS (jd n)) ∧ L' = Cn :: F) := by
  refine qi (E0 := [(0, _)]) (N := 6) Tryz.func17 rfl rfl rfl rfl ?_
  refine qO <| qE rfl <| qm <| qA rfl <| qG (w5 rfl (we (Cn) (WA H p n Cn hn hok))) ?_
  rintro t4 _ ⟨C', hs, rfl⟩
  refine q9 (wM rfl (zk (C') (cost_ok (jd n) t4 C' hs (fun x hx => Yt hx) (Zf n)))) ?_
  refine qE rfl <| qF <| qy <| wC (Cn :: F) (.inl rfl) rfl (qu rfl) ?_
  exact ⟨rfl, rfl⟩
def VB (gv : Value) (K : qV) (h : Int → Int × Int) : Prop := ∀ (w0 : World) (F : Res) (j : Nat), j < 32 → FnV Tryz.prog w0 gv [.int .i64 j] (K :: F) (fun v L' => v = yN (h j) ∧ L' = K :: F)
def Ym (n : NS) (h : Int → Int × Int) : List Int := (List.range 32).map fun j : Nat => (n.at_ (h j)).getD 0
theorem WG {n : NS} (hok : NOk n) (h : Int → Int × Int) : jY (Ym n h) := ⟨by simp [Ym], fun a ha => by
  obtain ⟨j, _, rfl⟩ := List.mem_map.1 ha
  cases e : n.at_ (h j) with
  | none => simp
  | some v => have := hok.at2 _ _ e; simp; omega⟩
theorem atsN_get (n : NS) (h : Int → Int × Int) {j : Nat} (hj : j < 32) : (Ym n h)[j]? = some ((n.at_ (h j)).getD 0) := by simp [Ym, hj]
theorem Zg {l : List Int} {i n : Nat} {x : Int} (hx : l[i]? = some x) (hn : i < n) :
    (iV (l.take i) ++ List.replicate (n - i) (Value.int .i64 0)).set (i * 1) (.int .i64 x) = iV (l.take (i + 1)) ++ List.replicate (n - (i + 1)) (Value.int .i64 0) := by
  have := VT hx hn
  rwa [Nat.zero_add] at this
theorem WY (p : Nat) (n : NS) (Cn K : qV) (hn : Wm p n Cn) (hok : NOk n) (gv : Value) (h : Int → Int × Int) (hp : VB gv K h) :
    FnT Tryz.prog w0 100 #[.pointer (some ⟨p, 0, none⟩), gv] (Cn :: K :: F) (fun v L' => v = .agg (wt (jy (Ym n h) (WG hok h))).toArray ∧ L' = Cn :: K :: F) := by
  refine KK (F := K :: F) (Rv := fun v => v = .agg (wt (jy (Ym n h) (WG hok h))).toArray) hn ?_
  intro ma md ms oa od os u C hm
  unfold kk zO
  obtain ⟨l, hl⟩ : ∃ l, Ym n h = l := ⟨_, rfl⟩
  have hpl : jY l := hl ▸ WG hok h
  have hps : jy (Ym n h) (WG hok h) = jy l hpl := by subst hl; rfl
  rw [hps]
  have hlen := hpl.len
  refine qi (E0 := [(0, _), (1, _)]) (N := 29) Tryz.func100 rfl rfl rfl rfl ?_
  refine qO <| qG (qj) ?_
  rintro t4 _ ⟨b4, rfl, rfl⟩
  refine qm <| qG (qj) ?_
  rintro t5 _ ⟨b5, rfl, rfl⟩
  refine qF <| qN <| qO <| qA rfl <| qF <| qg <| wS (Γ := {pΓ : (Nat) // (fun (i : Nat) => i ≤ 32) pΓ}) (fun g => (fun (i : Nat) => [(0, .pointer (some ⟨p, 0, none⟩)), (1, gv), (4, .pointer (some ⟨b4, 0, none⟩)), (5, .pointer (some ⟨b5, 0, none⟩)), (9, .int .i64 i)]) g.1) (fun g => (fun (i : Nat) => [(b5, .cells (iV (l.take i) ++ List.replicate (32 - i) (Value.int .i64 0)).toArray 175 (0, 0))] :: [(b4, .cells (wt Sec.zero).toArray 55 (0, 0))] :: [(p, .cells [.int .u32 n.num, .int .u32 n.ver, .int .i64 n.kind, .int .i64 n.size, .int .u32 n.time, .map (some ma), .map (some md), .map (some ms), u].toArray 90 (0, 0))] :: [(ma, oa)] :: [(md, od)] :: [(ms, os)] :: C :: K :: F) g.1) (fun g => (fun (i : Nat) => 32 - i) g.1) ⟨0, by dsimp only; exact (by omega)⟩ (yW rfl) ?_
  rintro ⟨i, hloop⟩
  replace hloop : i ≤ 32 := hloop
  obtain hi := hloop
  show Tr _ _ _ ([(0, .pointer (some ⟨p, 0, none⟩)), (1, gv), (4, .pointer (some ⟨b4, 0, none⟩)), (5, .pointer (some ⟨b5, 0, none⟩)), (9, .int .i64 i)]) ([(b5, .cells (iV (l.take i) ++ List.replicate (32 - i) (Value.int .i64 0)).toArray 175 (0, 0))] :: [(b4, .cells (wt Sec.zero).toArray 55 (0, 0))] :: [(p, .cells [.int .u32 n.num, .int .u32 n.ver, .int .i64 n.kind, .int .i64 n.size, .int .u32 n.time, .map (some ma), .map (some md), .map (some ms), u].toArray 90 (0, 0))] :: [(ma, oa)] :: [(md, od)] :: [(ms, os)] :: C :: K :: F) _ _
  refine qO <| q9 (wJ rfl rfl) <| qF <| qN <| qM rfl (fun hc3 => ?_) (fun hc3 => ?_)
  ·
   refine qZ <| qJ <| qN <| qg <| qO <| qA rfl <| qE rfl <| qT <| qJ ?_
   have ha : l[i]? = some ((n.at_ (h i)).getD 0) := by rw [← hl]; exact atsN_get n h (by omega)
   refine wT wB <| wD [(12, .pure _), (13, .pure _), (14, .pure _), (15, .pure _), (16, .pure _), (17, .pure _), (18, .pure _), (19, .pure _), (20, .pure _)] (by kernel_rfl) rfl rfl rfl wm (qC rfl (fun X => qP rfl) <| qC rfl (fun X => qP rfl) <| qC rfl (fun X => qQ rfl) <| qC rfl (fun X => qB rfl) <| qC rfl (fun X => qI rfl rfl) <| qC rfl (fun X => qP rfl) <| qC rfl (fun X => qP rfl) <| qC rfl (fun X => kP rfl rfl (Y0 K (hp w0 _ i (by omega)))) <| qC rfl (fun X => yP (z := 0) (q := h i) rfl rfl hm.a) <| ParH.nil rfl) ?_
   dsimp only [ze, List.drop, List.length]
   refine wE (by kernel_rfl) (wj (j := i) (off := i * 1) rfl rfl rfl (by omega) (by simp)) ?_
   refine kT (by kernel_rfl) (yM rfl rfl (by simp; omega) rfl) ?_
   refine wI <| qe <| qJ <| qK <| q9 (w9 rfl rfl (by omega)) <| qA rfl <| qT <| w6 ⟨i + 1, ?_⟩ ?_ ?_
   · (try dsimp only); omega
   · (try dsimp only); omega
   · (try dsimp only); exact yW (by rw [Zg ha (by omega)])
  ·
   refine wa <| qr <| qt <| qh <| qJ <| qN ?_
   obtain rfl : i = 32 := by omega
   rw [List.take_of_length_le (by omega : l.length ≤ 32), Nat.sub_self, List.replicate_zero, List.append_nil]
   refine qK <| q9 (wQ rfl (by simp [hlen])) ?_
   refine q9 (wM rfl (writePointers_ok l hpl)) <| qA rfl <| q9 (qf rfl rfl) <| q9 (qf rfl rfl) <| qG (qj) ?_
   rintro t7 _ ⟨b7, rfl, rfl⟩
   refine qR (qo rfl rfl (by simp) (by simp) (by exact wl _)) ?_
   refine qE rfl <| qm <| q9 (wQ rfl (by simp)) ?_
   refine qR (qo rfl rfl (by simp) (by simp) (by exact wl _)) ?_
   refine qF <| qy <| wC ([(p, .cells [.int .u32 n.num, .int .u32 n.ver, .int .i64 n.kind, .int .i64 n.size, .int .u32 n.time, .map (some ma), .map (some md), .map (some ms), u].toArray 90 (0, 0))] :: [(ma, oa)] :: [(md, od)] :: [(ms, os)] :: C :: K :: F) (.inl rfl) rfl (zR rfl (by simp)) ?_
   exact ⟨rfl, rfl⟩
structure NFl (n : NS) : Prop where
  num : 0 ≤ n.num ∧ n.num < 65536
  ver : 0 ≤ n.ver ∧ n.ver < 4294967296
  kind : 1 ≤ n.kind ∧ n.kind ≤ 2
  size : 0 ≤ n.size ∧ n.size ≤ 136192
  time : 0 ≤ n.time ∧ n.time < 4294967296
def atN (n : NS) (k : Int × Int) : Int := (n.at_ k).getD 0
def Yl (n : NS) : Ino := ⟨n.num, n.ver, n.kind, n.size, n.time, (List.range 8).map (fun j : Nat => atN n (1, j)), atN n (3, 0), atN n (4, 0)⟩
theorem X6 {n : NS} (hok : NOk n) (k : Int × Int) : 0 ≤ atN n k ∧ atN n k ≤ 65535 := by
  unfold atN
  cases e : n.at_ k with
  | none => simp
  | some v => have := hok.at2 _ _ e; simp; omega
theorem Ze {n : NS} (hok : NOk n) (hf : NFl n) : (Yl n).Ok := by
  have hs := hf.size
  refine ⟨hf.num, hf.ver, hf.kind, ?_, hf.time, by simp [Yl], fun a ha => ?_, ?_, ?_⟩
  · show 0 ≤ n.size ∧ n.size < _; omega
  · obtain ⟨j, _, rfl⟩ := List.mem_map.1 ha
    have := X6 hok (1, j); omega
  · have := X6 hok (3, 0); show 0 ≤ atN n (3, 0) ∧ atN n (3, 0) < 4294967296; omega
  · have := X6 hok (4, 0); show 0 ≤ atN n (4, 0) ∧ atN n (4, 0) < 4294967296; omega
theorem inode_ok (p : Nat) (n : NS) (Cn G : qV) (hn : Wm p n Cn) (hg : kj G) (hok : NOk n) (hf : NFl n) :
    FnT Tryz.prog w0 102 #[.pointer (some ⟨p, 0, none⟩)] (Cn :: G :: F) (fun v L' => v = .agg (wt (Zd (Yl n) (Ze hok hf))).toArray ∧ L' = Cn :: G :: F) := by
  refine nodeg_read0 (F := F) (Rv := fun v => v = .agg (wt (Zd (Yl n) (Ze hok hf))).toArray) hn hg ?_
  intro ma md ms oa od os u C e0 f0 e1 f1 e2 f2 hm
  unfold kk zO Q3
  obtain ⟨l, hl⟩ : ∃ l, (List.range 8).map (fun j : Nat => atN n (1, j)) = l := ⟨_, rfl⟩
  have hlen : l.length = 8 := by rw [← hl]; simp
  have hget : ∀ j : Nat, j < 8 → l[j]? = some (atN n (1, j)) := fun j hj => by rw [← hl]; simp [hj]
  refine qi (E0 := [(0, _)]) (N := 60) Tryz.func102 rfl rfl rfl rfl ?_
  refine qO <| qG (qj) ?_
  rintro t2 _ ⟨b2, rfl, rfl⟩
  refine qF <| qN <| wT wB <| wD ((7, .pure _) :: (8, .pure _) :: (9, .pure _) :: (10, .pure _) :: (11, .pure _) :: (12, .pure _) :: (13, .pure _) :: (14, .pure _) :: (15, .pure _) :: (16, .pure _) :: (17, .pure _) :: (18, .pure _) :: (19, .pure _) :: (20, .pure _) :: (21, .pure _) :: (22, .pure _) :: (23, .pure _) :: (24, .pure _) :: (25, .pure _) :: (26, .pure _) :: (27, .pure _) :: (28, .pure _) :: (29, .pure _) :: (30, .pure _) :: (31, .pure _) :: (32, .pure _) :: (33, .pure _) :: (34, .pure _) :: (35, .pure _) :: (36, .pure _) :: (37, .pure _) :: (38, .pure _) :: (39, .pure _) :: (3, .act [] (V9 _ 168)) :: []) (by kernel_rfl) rfl rfl rfl (Qe [[]] rfl) (qC rfl (fun X => qP rfl) <| qC rfl (fun X => qQ rfl) <| qC rfl (fun X => qB rfl) <| qC rfl (fun X => qI rfl rfl) <| qC rfl (fun X => qP rfl) <| qC rfl (fun X => qQ rfl) <| qC rfl (fun X => qB rfl) <| qC rfl (fun X => qI rfl rfl) <| qC rfl (fun X => qP rfl) <| qC rfl (fun X => qQ rfl) <| qC rfl (fun X => qB rfl) <| qC rfl (fun X => qI rfl rfl) <| qC rfl (fun X => qP rfl) <| qC rfl (fun X => qQ rfl) <| qC rfl (fun X => qB rfl) <| qC rfl (fun X => qI rfl rfl) <| qC rfl (fun X => qP rfl) <| qC rfl (fun X => qQ rfl) <| qC rfl (fun X => qB rfl) <| qC rfl (fun X => qI rfl rfl) <| qC rfl (fun X => qP rfl) <| qC rfl (fun X => qQ rfl) <| qC rfl (fun X => qB rfl) <| qC rfl (fun X => qI rfl rfl) <| qC rfl (fun X => wW rfl) <| qC rfl (fun X => yP (z := 0) (q := (3, 0)) rfl rfl hm.a) <| qC rfl (fun X => qP rfl) <| qC rfl (fun X => qQ rfl) <| qC rfl (fun X => qB rfl) <| qC rfl (fun X => qI rfl rfl) <| qC rfl (fun X => wW rfl) <| qC rfl (fun X => yP (z := 0) (q := (4, 0)) rfl rfl hm.a) <| qC rfl (fun X => wX (z := [Value.int .u32 0, Value.int .u32 0, Value.int .i64 0, Value.int .i64 0, Value.int .u32 0, Value.int .i64 0, Value.int .i64 0, Value.int .i64 0, Value.int .i64 0, Value.int .i64 0, Value.int .i64 0, Value.int .i64 0, Value.int .i64 0, Value.int .i64 0, Value.int .i64 0]) (hz := .of (by kernel_rfl)) rfl) <| Qt rfl (fun X => Za) <| ParH.nil rfl) ?_
  rintro _ _ ⟨b3, rfl, rfl⟩
  dsimp only [ze, List.drop, List.length]
  refine kT (by kernel_rfl) (qo rfl rfl Wf rfl (by simp [Value.oneCell'])) ?_
  refine wI <| qJ <| qN <| qO <| qA rfl <| qF <| qg <| wS (Γ := {pΓ : (Nat) // (fun (i : Nat) => i ≤ 8) pΓ}) (fun g => (fun (i : Nat) => [(0, .pointer (some ⟨p, 0, none⟩)), (2, .pointer (some ⟨b2, 0, none⟩)), (3, .pointer (some ⟨b3, 0, none⟩)), (40, .int .i64 i)]) g.1) (fun g => (fun (i : Nat) => [(b3, .cells (yL { Yl n with d := l.take i ++ List.replicate (8 - i) 0 }).toArray 168 (0, 0))] :: [(b2, .cells (wt Sec.zero).toArray 55 (0, 0))] :: [(p, .cells [.int .u32 n.num, .int .u32 n.ver, .int .i64 n.kind, .int .i64 n.size, .int .u32 n.time, .map (some ma), .map (some md), .map (some ms), u].toArray 90 (0, 0))] :: [(ma, oa)] :: [(md, od)] :: [(ms, os)] :: C :: [(0, .cells [Value.int .i64 2, Value.int .i64 0].toArray e0 f0)] :: [(1, .cells [Value.int .i64 4, Value.int .i64 0].toArray e1 f1)] :: [(2, .cells [Value.int .i64 3, Value.int .i64 0].toArray e2 f2)] :: F) g.1) (fun g => (fun (i : Nat) => 8 - i) g.1) ⟨0, by dsimp only; exact (by omega)⟩ (yW rfl) ?_
  rintro ⟨i, hloop⟩
  replace hloop : i ≤ 8 := hloop
  obtain hi := hloop
  show Tr _ _ _ ([(0, .pointer (some ⟨p, 0, none⟩)), (2, .pointer (some ⟨b2, 0, none⟩)), (3, .pointer (some ⟨b3, 0, none⟩)), (40, .int .i64 i)]) ([(b3, .cells (yL { Yl n with d := l.take i ++ List.replicate (8 - i) 0 }).toArray 168 (0, 0))] :: [(b2, .cells (wt Sec.zero).toArray 55 (0, 0))] :: [(p, .cells [.int .u32 n.num, .int .u32 n.ver, .int .i64 n.kind, .int .i64 n.size, .int .u32 n.time, .map (some ma), .map (some md), .map (some ms), u].toArray 90 (0, 0))] :: [(ma, oa)] :: [(md, od)] :: [(ms, os)] :: C :: [(0, .cells [Value.int .i64 2, Value.int .i64 0].toArray e0 f0)] :: [(1, .cells [Value.int .i64 4, Value.int .i64 0].toArray e1 f1)] :: [(2, .cells [Value.int .i64 3, Value.int .i64 0].toArray e2 f2)] :: F) _ _
  refine qO <| q9 (wJ rfl rfl) <| qF <| qN <| qM rfl (fun hc3 => ?_) (fun hc3 => ?_)
  ·
   refine qZ <| qJ <| qN <| qg <| qO <| qA rfl <| qE rfl <| qF <| qK <| qA rfl <| qA rfl <| q9 (qQ rfl) <| q9 (qB rfl) <| q9 (qI rfl rfl) <| qA rfl <| q9 (wX rfl) <| q9 (yP (z := 0) (q := (1, (i : Int))) rfl rfl hm.a) <| q9 (qB rfl) <| q9 (wj (j := i) (off := 5 + i * 1) rfl rfl rfl (by omega) (by simp)) ?_
   refine qR (yM rfl rfl (by simp [yL]; omega) rfl) ?_
   refine qT <| qe <| qJ <| qK <| q9 (w9 rfl rfl (by omega)) <| qA rfl <| qT <| w6 ⟨i + 1, ?_⟩ ?_ ?_
   · (try dsimp only); omega
   · (try dsimp only); omega
   · (try dsimp only); exact yW (by have e := Vj (y := { Yl n with d := l.take i ++ List.replicate (8 - i) 0 }) (i := i) (a := atN n (1, i)) (by simp; omega); have e2 := V8 (hget i (by omega)) (by omega) (by omega); dsimp only at e e2; rw [e2] at e; rw [show i * 1 = i from by omega]; rw [show (n.at_ (1, (i : Int))).getD 0 = atN n (1, i) from rfl, e])
  ·
   refine wa <| qr <| qt <| qh <| qJ <| qN ?_
   obtain rfl : i = 8 := by omega
   have he : { Yl n with d := l.take 8 ++ List.replicate (8 - 8) 0 } = Yl n := by rw [List.take_of_length_le (by omega), Nat.sub_self, List.replicate_zero, List.append_nil, ← hl]; rfl
   rw [he]
   refine qK <| q9 (wQ rfl (j3 (Ze hok hf))) <| q9 (wM rfl (writeInode_ok (Yl n) (Ze hok hf))) <| qA rfl <| q9 (qf rfl rfl) <| q9 (qf rfl rfl) <| qG (qj) ?_
   rintro t5 _ ⟨b5, rfl, rfl⟩
   refine qR (qo rfl rfl (by simp) (by simp) (by exact wl _)) ?_
   refine qE rfl <| qm <| q9 (wQ rfl (by simp)) ?_
   refine qR (qo rfl rfl (by simp) (by simp) (by exact wl _)) ?_
   refine qF <| qy <| wC ([(p, .cells [.int .u32 n.num, .int .u32 n.ver, .int .i64 n.kind, .int .i64 n.size, .int .u32 n.time, .map (some ma), .map (some md), .map (some ms), u].toArray 90 (0, 0))] :: [(ma, oa)] :: [(md, od)] :: [(ms, os)] :: C :: [(0, .cells [Value.int .i64 2, Value.int .i64 0].toArray e0 f0)] :: [(1, .cells [Value.int .i64 4, Value.int .i64 0].toArray e1 f1)] :: [(2, .cells [Value.int .i64 3, Value.int .i64 0].toArray e2 f2)] :: F) (.inl rfl) rfl (zR rfl (by simp)) ?_
   exact ⟨rfl, rfl⟩
def zP (l f : Int) (j : Int) : Int × Int := (1, (if l = 0 then 0 else if l = 1 then 8 else 40) + f * 32 + j)
theorem Xo (l f : Int) (hl : 0 ≤ l ∧ l ≤ 2) (h1 : 1 ≤ l) (hf : 0 ≤ f ∧ (f = 0 ∨ l = 2 ∧ f < 32)) (b c : Nat) :
    VB (.func (.func 98) #[] #[.pointer (some ⟨b, 0, none⟩), .pointer (some ⟨c, 0, none⟩)]) [(b, .cells [Value.int .i64 l].toArray 3 (0, 0)), (c, .cells [Value.int .i64 f].toArray 3 (0, 0))] (zP l f) := by
  intro w0 F j hj
  refine Ve ?_
  refine Qu (L1 := [(b, .cells [Value.int .i64 l].toArray 3 (0, 0))] :: [(c, .cells [Value.int .i64 f].toArray 3 (0, 0))] :: F) ?_ (by simp)
  refine qi (E0 := [(0, _), (1, _), (2, _)]) (N := 17) Tryz.func98 rfl rfl rfl rfl ?_
  refine qO <| qG (qj) ?_
  rintro t4 _ ⟨b4, rfl, rfl⟩
  refine qm <| q9 (qI rfl rfl) <| q9 (qI rfl rfl) <| qA rfl <| q9 (wX rfl) <| q9 (wM rfl (KW l f j hl hf ⟨by omega, by rw [if_neg (by omega)]; omega⟩)) <| qA rfl <| q9 (qf rfl rfl) <| q9 (qf rfl rfl) <| qE rfl <| qE rfl <| qm <| qA rfl <| q9 (wX rfl) <| qR (wc rfl rfl rfl rfl) <| qF <| qy <| wC ([(b, .cells [Value.int .i64 l].toArray 3 (0, 0))] :: [(c, .cells [Value.int .i64 f].toArray 3 (0, 0))] :: F) (.inl rfl) rfl (zU rfl) ?_
  exact ⟨rfl, rfl⟩
theorem leaf_ok : VB (.func (.func 101) #[] #[]) [] (fun j => (5, j)) := by
  intro w0 F j hj
  refine Y1 ?_
  refine qi (E0 := [(0, _)]) (N := 5) Tryz.func101 rfl rfl rfl rfl ?_
  refine qO <| qG (qj) ?_
  rintro t2 _ ⟨b2, rfl, rfl⟩
  refine qm <| qA rfl <| q9 (wX rfl) <| qR (wc rfl rfl rfl rfl) <| qF <| qy <| wC ([] :: F) (.inl rfl) rfl (zU rfl) ?_
  exact ⟨rfl, rfl⟩
theorem KN (l f : Int) : FnT Tryz.prog w0 97 #[.int .i64 l, .int .i64 f] F (fun v L' => ∃ b c, v = .func (.func 98) #[] #[.pointer (some ⟨b, 0, none⟩), .pointer (some ⟨c, 0, none⟩)] ∧ L' = [(b, .cells [Value.int .i64 l].toArray 3 (0, 0)), (c, .cells [Value.int .i64 f].toArray 3 (0, 0))] :: F) := by
  refine qi (E0 := [(0, _), (1, _)]) (N := 6) Tryz.func97 rfl rfl rfl rfl ?_
  refine qO <| qG (wq rfl) ?_
  rintro t2 _ ⟨b2, rfl, rfl⟩
  refine qG (wq rfl) ?_
  rintro t3 _ ⟨b3, rfl, rfl⟩
  refine qE rfl <| qm <| q9 (z6 rfl rfl) <| qE rfl <| qT <| zN (L' := [(b2, .cells [Value.int .i64 l].toArray 3 (0, 0)), (b3, .cells [Value.int .i64 f].toArray 3 (0, 0))] :: F) (yj (by intro f; simp only [List.flatten_cons, List.flatten_nil, List.append_nil, List.countP_append, List.countP_cons, List.countP_nil]; omega)) ?_
  refine qJ <| qy <| zq (.inl rfl) rfl (qu rfl) ?_
  exact ⟨b2, b3, rfl, rfl⟩
def yg (n : NS) (hok : NOk n) (hf : NFl n) (k : Int × Int) : Sec :=
  if k.1 = 1 then (n.data k.2).getD Sec.zero
  else if k.1 = 5 then jy (Ym n (zP 2 k.2)) (WG hok _)
  else if k.1 = 3 then jy (Ym n (zP 1 0)) (WG hok _)
  else if k.1 = 4 then jy (Ym n (fun j => (5, j))) (WG hok _)
  else Zd (Yl n) (Ze hok hf)
theorem Y4 (p : Nat) (n : NS) (Cn G : qV) (hn : Wm p n Cn) (hg : kj G) (hok : NOk n) (hf : NFl n) (k : Int × Int) (hk : qw k) :
    FnT Tryz.prog w0 75 #[.pointer (some ⟨p, 0, none⟩), yN k] (Cn :: G :: F) (fun v L' => v = .agg (wt (yg n hok hf k)).toArray ∧ L' = Cn :: G :: F) := by
  obtain ⟨ma, md, ms, oa, od, os, u, C, hCn, hMa, hMd, hMs⟩ := id hn
  unfold zO at hCn
  unfold yN
  refine qi (E0 := [(0, _), (1, _)]) (N := 37) Tryz.func75 rfl rfl rfl rfl ?_
  refine qO <| qG (wq rfl) ?_
  rintro t3 _ ⟨b3, rfl, rfl⟩
  refine qG (qj) ?_
  rintro t4 _ ⟨b4, rfl, rfl⟩
  refine qm <| qE rfl <| qF <| qN <| qO <| q9 (qB rfl) <| q9 (qI rfl rfl) <| qF <| qg <| qO <| q9 (wn rfl rfl) <| qE rfl <| qF <| qM rfl (fun hc3 => ?_) (fun hc3 => ?_)
  ·
   refine yy (L' := [(b4, .cells (wt Sec.zero).toArray 55 (0, 0))] :: [(b3, .cells [.int .i64 k.1, .int .i64 k.2].toArray 100 (0, 0))] :: [(p, .cells [.int .u32 n.num, .int .u32 n.ver, .int .i64 n.kind, .int .i64 n.size, .int .u32 n.time, .map (some ma), .map (some md), .map (some ms), u].toArray 90 (0, 0))] :: [(ma, oa)] :: [(md, od)] :: [(ms, os)] :: C :: G :: F) (wZ (by rw [hCn]; simp)) ?_
   refine qN <| wT wB <| wD [(10, .pure _), (11, .pure _), (12, .pure _), (13, .pure _), (14, .pure _), (15, .pure _)] (by kernel_rfl) rfl rfl rfl wm (qC rfl (fun X => qP rfl) <| qC rfl (fun X => qQ rfl) <| qC rfl (fun X => qB rfl) <| qC rfl (fun X => qI rfl rfl) <| qC rfl (fun X => qB rfl) <| qC rfl (fun X => qI rfl rfl) <| ParH.nil rfl) ?_
   dsimp only [ze, List.drop, List.length]
   refine wE (by kernel_rfl) (yP (z := Sec.zero) (q := k.2) rfl rfl hMd) ?_
   refine kT (by kernel_rfl) (qo rfl rfl (by simp) (by simp) (wl _)) ?_
   refine wI <| zN (L' := [(b4, .cells (wt ((n.data k.2).getD Sec.zero)).toArray 55 (0, 0))] :: [(b3, .cells [.int .i64 k.1, .int .i64 k.2].toArray 100 (0, 0))] :: Cn :: G :: F) (wZ (by rw [hCn]; simp)) ?_
   refine qJ <| qy <| wH <| qv <| wC (Cn :: G :: F) (.inl rfl) rfl (zR rfl (by simp)) ?_
   exact ⟨by unfold yg; rw [if_pos hc3], rfl⟩
  ·
   refine qO <| q9 (wn rfl rfl) <| qE rfl <| qF <| qM rfl (fun hc5 => ?_) (fun hc5 => ?_)
   ·
    refine qO <| qA rfl <| qA rfl <| q9 (qB rfl) <| q9 (qI rfl rfl) <| qG (kP rfl rfl (Y1 (KN 2 k.2))) ?_
    rintro t23 _ ⟨bl, bf, rfl, rfl⟩
    refine q9 (wM rfl (k6 (Cn) ([(bl, .cells [Value.int .i64 2].toArray 3 (0, 0)), (bf, .cells [Value.int .i64 k.2].toArray 3 (0, 0))]) (WY p n Cn _ hn hok _ (zP 2 k.2) (Xo 2 k.2 (by omega) (by omega) (by rcases hk with ⟨e, _⟩ | e | e | e | ⟨_, e⟩ <;> first | omega | (rw [e] at hc5; exact absurd hc5 (by decide))) bl bf)))) ?_
    refine qR (qo rfl rfl (by simp) (by simp) (wl _)) ?_
    refine qF <| qy <| wH <| qv <| wC (Cn :: G :: F) (.inl rfl) rfl (zR rfl (by simp)) ?_
    exact ⟨by unfold yg; rw [if_neg hc3, if_pos hc5], rfl⟩
   ·
    refine qO <| q9 (wn rfl rfl) <| qE rfl <| qF <| qM rfl (fun hc7 => ?_) (fun hc7 => ?_)
    ·
     refine qO <| qA rfl <| qA rfl <| qG (kP rfl rfl (Y1 (KN 1 0))) ?_
     rintro t29 _ ⟨bl, bf, rfl, rfl⟩
     refine q9 (wM rfl (k6 (Cn) ([(bl, .cells [Value.int .i64 1].toArray 3 (0, 0)), (bf, .cells [Value.int .i64 0].toArray 3 (0, 0))]) (WY p n Cn _ hn hok _ (zP 1 0) (Xo 1 0 (by omega) (by omega) (by omega) bl bf)))) <| qR (qo rfl rfl (by simp) (by simp) (wl _)) ?_
     refine qF <| qy <| wH <| qv <| wC (Cn :: G :: F) (.inl rfl) rfl (zR rfl (by simp)) ?_
     exact ⟨by unfold yg; rw [if_neg hc3, if_neg hc5, if_pos hc7], rfl⟩
    ·
     refine qO <| q9 (wn rfl rfl) <| qE rfl <| qF <| qM rfl (fun hc9 => ?_) (fun hc9 => ?_)
     ·
      refine qO <| qA rfl <| q9 (wM rfl (k6 Cn [] (WY p n Cn [] hn hok _ (fun j => (5, j)) leaf_ok))) ?_
      refine qR (qo rfl rfl (by simp) (by simp) (wl _)) ?_
      refine qF <| qy <| wH <| qv <| wC (Cn :: G :: F) (.inl rfl) rfl (zR rfl (by simp)) ?_
      exact ⟨by unfold yg; rw [if_neg hc3, if_neg hc5, if_neg hc7, if_pos hc9], rfl⟩
     ·
      refine qZ <| qe <| qJ <| qO <| qA rfl <| q9 (wM rfl (k6 (Cn) (G) (inode_ok p n Cn G hn hg hok hf))) <| qR (qo rfl rfl (by simp) (by simp) (wl _)) ?_
      refine qF <| qy <| wC (Cn :: G :: F) (.inl rfl) rfl (zR rfl (by simp)) ?_
      exact ⟨by unfold yg; rw [if_neg hc3, if_neg hc5, if_neg hc7, if_neg hc9], rfl⟩
def kQ (num ver : Int) (k : Int × Int) (s : Sec) : List Value := .int .i64 k.1 :: .int .u32 num :: .int .u32 ver :: .int .i64 k.2 :: wt s
theorem YF (num ver : Int) (k : Int × Int) (s : Sec) : (kQ num ver k s).length = 132 := by simp [kQ]
instance (priority := high) : TyZero Tryz.prog 109 (.agg (.int .i64 0 :: .int .u32 0 :: .int .u32 0 :: .int .i64 0 :: wt Sec.zero).toArray) := .of (by kernel_rfl)
instance (priority := high) (a b c d : Value) (s : Sec) : LenC (a :: b :: c :: d :: wt s) 132 := ⟨by simp⟩
theorem xz (s : Sec) : (wt s).take 128 = wt s := List.take_of_length_le (by simp)
def kS : List (Int × Int) → List Int → (Int × Int → Option Int) × List Int → (Int × Int → Option Int) × List Int
  | k :: l, a :: bs, s => kS l bs (upd s.1 k (some a), if (s.1 k).getD 0 ≠ 0 then s.2 ++ [(s.1 k).getD 0] else s.2)
  | _, _, s => s
theorem Ye (bs : List Int) (s : (Int × Int → Option Int) × List Int) : kS [] bs s = s := by cases bs <;> rfl
theorem commitF_step {l : List (Int × Int)} {bs : List Int} {i : Nat} {k : Int × Int} {a : Int} (hk : l[i]? = some k) (ha : bs[i]? = some a) (s : (Int × Int → Option Int) × List Int) :
    kS (l.drop i) (bs.drop i) s = kS (l.drop (i + 1)) (bs.drop (i + 1)) (upd s.1 k (some a), if (s.1 k).getD 0 ≠ 0 then s.2 ++ [(s.1 k).getD 0] else s.2) := by
  rw [kJ hk, kJ ha, kS]
def M1 (f : Int × Int → Option Int) : Prop := (∀ k, f k ≠ none → qw k) ∧ ∀ k a, f k = some a → 1 ≤ a ∧ a ≤ 65535
theorem atOk_upd {f : Int × Int → Option Int} (h : M1 f) {k : Int × Int} (hk : qw k) {a : Int} (ha : 1 ≤ a ∧ a ≤ 65535) : M1 (upd f k (some a)) := by
  refine ⟨fun q hq => ?_, fun q b hq => ?_⟩
  · by_cases e : q = k
    · subst e; exact hk
    · rw [wb _ _ e] at hq; exact h.1 q hq
  · by_cases e : q = k
    · subst e; rw [zQ] at hq; cases hq; exact ha
    · rw [wb _ _ e] at hq; exact h.2 q b hq
noncomputable def Wa (n : NS) (ats : List Int) : NS := { n with at_ := (kS (yO n) ats (n.at_, n.gone)).1 }
noncomputable def xo (n : NS) (ats : List Int) : NS := { Wa n ats with data := fun _ => none, stale := fun _ => none, gone := [] }
noncomputable def xU (n : NS) (ats : List Int) : List Int := (kS (yO n) ats (n.at_, n.gone)).2
theorem J9 {n : NS} {k : Int × Int} (h : k ∈ yO n) : qw k := by
  classical
  unfold yO at h
  exact (zn k).1 (List.mem_filter.1 h).1
theorem ZJ (n : NS) : (yO n).length ≤ 1099 := by
  unfold yO
  refine Nat.le_trans (List.length_filter_le _ _) ?_
  simp [allParts]
theorem commitF_ok : ∀ (l : List (Int × Int)) (bs : List Int) (s : (Int × Int → Option Int) × List Int), (∀ k ∈ l, qw k) → (∀ a ∈ bs, 1 ≤ a ∧ a ≤ 65535) → M1 s.1 → M1 (kS l bs s).1 := by
  intro l
  induction l with
  | nil => intro bs s _ _ h; exact h
  | cons k l ih =>
    intro bs s hl ha h
    cases bs with
    | nil => exact h
    | cons a bs =>
      rw [kS]
      exact ih bs _ (fun x hx => hl x (by simp [hx])) (fun x hx => ha x (by simp [hx])) (atOk_upd h (hl k (by simp)) (ha a (by simp)))
theorem xk {n : NS} (hok : NOk n) {ats : List Int} (ha : ∀ a ∈ ats, 1 ≤ a ∧ a ≤ 65535) : NOk (Wa n ats) := by
  have h := commitF_ok (yO n) ats (n.at_, n.gone) (fun k hk => J9 hk) ha ⟨hok.at1, hok.at2⟩
  exact ⟨hok.data, h.1, h.2, hok.stale⟩
theorem commitN_ok {n : NS} (hok : NOk n) {ats : List Int} (ha : ∀ a ∈ ats, 1 ≤ a ∧ a ≤ 65535) : NOk (xo n ats) := by
  have h := xk hok ha
  exact ⟨fun k hk => absurd rfl hk, h.at1, h.at2, fun k hk => absurd rfl hk⟩
theorem W7 {n : NS} (hf : NFl n) (ats : List Int) : NFl (Wa n ats) := ⟨hf.num, hf.ver, hf.kind, hf.size, hf.time⟩
theorem badAt_ok (xs : List Int) : Kt (.func (.func 74) #[] #[]) [] xs (fun i => decide (i < 1 ∨ 65536 ≤ i)) := by
  intro w0 F a ha
  refine Y1 ?_
  refine qi (E0 := [(0, _)]) (N := 9) Tryz.func74 rfl rfl rfl rfl ?_
  refine qO <| qE rfl <| qm <| qA rfl <| q9 (wJ rfl rfl) <| qA rfl <| qY (s := 5) rfl (fun hg1_2 => ?_) (fun hg1_2 => ?_)
  ·
   refine qL rfl rfl rfl <| qL rfl rfl rfl <| q9 (qq rfl rfl) <| qE rfl <| qF <| qy <| wC ([] :: F) (.inl rfl) rfl (qu rfl) ?_
   exact ⟨by congr 1; simp [*], rfl⟩
  ·
   refine qD rfl rfl (qP rfl) <| qD rfl rfl (kr rfl rfl) <| q9 (qU rfl rfl) <| qE rfl <| qF <| qy <| wC ([] :: F) (.inl rfl) rfl (qu rfl) ?_
   exact ⟨by congr 1; simp [*], rfl⟩
theorem QX (H : jL w0) (HP : QA) (p : Nat) (n : NS) (Cn G Ca : qV) (hn : NodeC p n Cn) (hg : kj G) (hok : NOk n) (ua : Value) (ats : List Int) (hat : SlC 3 1 ua ats.length (iV ats) Ca) (hlen : (yO n).length ≠ ats.length) (hl : ats.length ≤ 1000000) :
    FnT Tryz.prog w0 44 #[.pointer (some ⟨p, 0, none⟩), ua] (Cn :: G :: Ca :: F) (fun v L' => v = .tuple #[.slice none 0 0, .slice none 0 0, .int .i64 1] ∧ L' = Cn :: G :: Ca :: F) := by
  have hpl := ZJ n
  obtain ⟨pu, cu, hu⟩ := hat.slice
  refine qi (E0 := [(0, _), (1, _)]) (N := 91) Tryz.func44 rfl rfl rfl rfl ?_
  refine qO <| qE rfl <| qE rfl <| qE rfl <| qm <| qA rfl <| qG (w5 rfl (kG (Cn) (G) (xJ H HP p n Cn G hn hg hok))) ?_
  rintro t16 _ ⟨Cp, hs, rfl⟩
  refine qE rfl <| qF <| qN <| qO <| qA rfl ?_
  obtain ⟨px, cx, rfl⟩ := hs.slice
  refine q9 (w8 rfl) <| qA rfl <| q9 (w8 (by rw [← hu]; rfl)) ?_
  refine q9 (zE rfl rfl) <| qA rfl <| qY (s := 22) rfl (fun hg2_5 => ?_) (fun hg2_5 => ?_)
  ·
   refine qL rfl rfl rfl <| qL rfl rfl rfl <| q9 (qq rfl rfl) <| qF <| zM rfl <| qO <| qE rfl <| qE rfl <| qE rfl <| qF <| qy <| qv <| Jf (Cn :: G :: Ca :: F) (.inl rfl) rfl (qu rfl) (qu rfl) (qu rfl) ?_
   exact ⟨rfl, rfl⟩
  · (exfalso; omega)
theorem commit_ok (H : jL w0) (HP : QA) (p : Nat) (n : NS) (Cn G Ca : qV) (hn : NodeC p n Cn) (hg : kj G) (hok : NOk n) (hfl : NFl n) (ua : Value) (ats : List Int) (hat : SlC 3 1 ua ats.length (iV ats) Ca) (hlen : (yO n).length = ats.length)
    (hr : ∀ a ∈ ats, 1 ≤ a ∧ a ≤ 65535) (hgl : n.gone.length ≤ 800000) :
    FnT Tryz.prog w0 44 #[.pointer (some ⟨p, 0, none⟩), ua] (Cn :: G :: Ca :: F) (fun v L' => ∃ ui ud Ci Cd Cn', v = .tuple #[ui, ud, .int .i64 0] ∧
      SlC 109 132 ui (yO n).length ((yO n).flatMap (fun k => kQ n.num n.ver k (yg (Wa n ats) (xk hok hr) (W7 hfl ats) k))) Ci ∧
      SlC 3 1 ud (xU n ats).length (iV (srt (xU n ats))) Cd ∧ NodeC p (xo n ats) Cn' ∧ L' = Ci :: Cd :: Cn' :: G :: Ca :: F) := by
  have hpl := ZJ n
  obtain ⟨pu, cu, hu⟩ := hat.slice
  obtain ⟨l, hl⟩ : ∃ l, yO n = l := ⟨_, rfl⟩
  have hlp : ∀ k ∈ l, qw k := fun k hk => J9 (hl ▸ hk)
  have hany : ats.any (fun i => decide (i < 1 ∨ 65536 ≤ i)) = false := by
    rw [List.any_eq_false]
    intro a ha
    have := hr a ha
    simp; omega
  obtain ⟨m, hm⟩ : ∃ m, Wa n ats = m := ⟨_, rfl⟩
  have hmok : NOk m := hm ▸ xk hok hr
  have hmfl : NFl m := hm ▸ W7 hfl ats
  have hsec : ∀ k, yg (Wa n ats) (xk hok hr) (W7 hfl ats) k = yg m hmok hmfl k := by subst hm; exact fun _ => rfl
  simp only [hsec]
  rw [hl] at hpl hlen ⊢
  obtain ⟨ma, md, ms, oa, od, os, u, C, hM, hCn⟩ := hn.eq
  unfold zO at hCn
  refine qi (E0 := [(0, _), (1, _)]) (N := 91) Tryz.func44 rfl rfl rfl rfl ?_
  refine qO <| qE rfl <| qE rfl <| qE rfl <| qm <| qA rfl <| qG (w5 rfl (kG (Cn) (G) (xJ H HP p n Cn G hn hg hok))) ?_
  rintro t16 _ ⟨Cp, hs, rfl⟩
  refine qE rfl <| qF <| qN <| qO <| qA rfl ?_
  rw [hl] at hs
  obtain ⟨px, cx, rfl⟩ := hs.slice
  refine q9 (w8 rfl) <| qA rfl <| q9 (w8 (by rw [← hu]; rfl)) ?_
  refine q9 (zE rfl rfl) <| qA rfl <| qY (s := 22) rfl (fun hg2_5 => ?_) (fun hg2_5 => ?_)
  · (exfalso; omega)
  ·
   refine qD rfl rfl (qP rfl) <| qD rfl rfl (wM rfl (k6 Ca [] (xZ _ ua [] Ca ats _ (badAt_ok ats) hat (by omega)))) <| q9 (qU rfl rfl) <| qT ?_
   rw [hany]
   refine qJ <| wV rfl <| qZ <| qJ <| qN <| yy (L' := Cp :: [(p, .cells [.int .u32 n.num, .int .u32 n.ver, .int .i64 n.kind, .int .i64 n.size, .int .u32 n.time, .map (some ma), .map (some md), .map (some ms), u].toArray 90 (0, 0))] :: [(ma, oa)] :: [(md, od)] :: [(ms, os)] :: C :: G :: Ca :: F) (wZ (by rw [hCn]; simp)) ?_
   refine qK <| qA rfl <| q9 (qQ rfl) <| q9 (qB rfl) <| q9 (qI rfl rfl) <| qE rfl <| qF <| qN <| qO <| qA rfl <| q9 (w8 rfl) <| qA rfl <| qF <| qg <| wS (Γ := {pΓ : (Nat) × (Int × Int → Option Int) × (Obj) × (List Int) × (Value) × (qV) // (fun (i : Nat) (f : Int × Int → Option Int) (oa' : Obj) (dead : List Int) (ud : Value) (Cd : qV) => i ≤ l.length ∧ MapF yN (Value.int .i64) f oa' ∧ SlC 3 1 ud dead.length (iV dead) Cd ∧ dead.length ≤ 800000 + i ∧ kS (l.drop i) (ats.drop i) (f, dead) = kS l ats (n.at_, n.gone)) pΓ.1 pΓ.2.1 pΓ.2.2.1 pΓ.2.2.2.1 pΓ.2.2.2.2.1 pΓ.2.2.2.2.2}) (fun g => (fun (i : Nat) (f : Int × Int → Option Int) (oa' : Obj) (dead : List Int) (ud : Value) (Cd : qV) => [(0, .pointer (some ⟨p, 0, none⟩)), (1, ua), (7, .slice px l.length cx), (8, ud), (30, .slice px l.length cx), (31, .int .i64 l.length), (32, .int .i64 i)]) g.1.1 g.1.2.1 g.1.2.2.1 g.1.2.2.2.1 g.1.2.2.2.2.1 g.1.2.2.2.2.2) (fun g => (fun (i : Nat) (f : Int × Int → Option Int) (oa' : Obj) (dead : List Int) (ud : Value) (Cd : qV) => [(p, .cells [.int .u32 n.num, .int .u32 n.ver, .int .i64 n.kind, .int .i64 n.size, .int .u32 n.time, .map (some ma), .map (some md), .map (some ms), u].toArray 90 (0, 0))] :: [(ma, oa')] :: [(md, od)] :: [(ms, os)] :: Cd :: Cp :: Ca :: G :: F) g.1.1 g.1.2.1 g.1.2.2.1 g.1.2.2.2.1 g.1.2.2.2.2.1 g.1.2.2.2.2.2) (fun g => (fun (i : Nat) (f : Int × Int → Option Int) (oa' : Obj) (dead : List Int) (ud : Value) (Cd : qV) => l.length - i) g.1.1 g.1.2.1 g.1.2.2.1 g.1.2.2.2.1 g.1.2.2.2.2.1 g.1.2.2.2.2.2) ⟨(0, n.at_, oa, n.gone, u, C), by dsimp only; exact ⟨by omega, hM.a, hM.g, by omega, rfl⟩⟩ (qX _) ?_
   rintro ⟨⟨i, f, oa', dead, ud, Cd⟩, hloop⟩
   replace hloop : i ≤ l.length ∧ MapF yN (Value.int .i64) f oa' ∧ SlC 3 1 ud dead.length (iV dead) Cd ∧ dead.length ≤ 800000 + i ∧ kS (l.drop i) (ats.drop i) (f, dead) = kS l ats (n.at_, n.gone) := hloop
   obtain ⟨hi, hf, hsl, hdl, hcf⟩ := hloop
   show Tr _ _ _ ([(0, .pointer (some ⟨p, 0, none⟩)), (1, ua), (7, .slice px l.length cx), (8, ud), (30, .slice px l.length cx), (31, .int .i64 l.length), (32, .int .i64 i)]) ([(p, .cells [.int .u32 n.num, .int .u32 n.ver, .int .i64 n.kind, .int .i64 n.size, .int .u32 n.time, .map (some ma), .map (some md), .map (some ms), u].toArray 90 (0, 0))] :: [(ma, oa')] :: [(md, od)] :: [(ms, os)] :: Cd :: Cp :: Ca :: G :: F) _ _
   refine qO <| q9 (wJ rfl rfl) <| qF <| qN <| qM rfl (fun hc6 => ?_) (fun hc6 => ?_)
   ·
    refine qZ <| qJ <| qN <| qg <| qN ?_
    obtain ⟨k, hk⟩ : ∃ k, l[i]? = some k := ⟨_, List.getElem?_eq_getElem (by omega)⟩
    obtain ⟨a, ha⟩ : ∃ a, ats[i]? = some a := ⟨_, List.getElem?_eq_getElem (by omega)⟩
    rw [commitF_step hk ha] at hcf
    refine qK <| qA rfl <| qG (yD (j := i) rfl rfl hs (by omega) (by omega)) ?_
    rintro t35 _ ⟨b, cap, spare, hqc, rfl, hcap, hnc, rfl, rfl⟩
    refine q9 (zC (j := i) y9 rfl hk rfl) <| qG (qj) ?_
    rintro t10 _ ⟨b10, rfl, rfl⟩
    refine qE rfl <| qR (qo (l := [Value.int .i64 0, Value.int .i64 0]) (vs := [.int .i64 k.1, .int .i64 k.2]) rfl rfl rfl rfl rfl) <| qF <| zY (Γ := {pΓ : (List Int) × (Value) × (qV) // (fun (dead2 : List Int) (ud2 : Value) (Cd2 : qV) => SlC 3 1 ud2 dead2.length (iV dead2) Cd2 ∧ dead2 = (if (f k).getD 0 ≠ 0 then dead ++ [(f k).getD 0] else dead) ∧ dead2.length ≤ dead.length + 1) pΓ.1 pΓ.2.1 pΓ.2.2}) (fun g => (fun (dead2 : List Int) (ud2 : Value) (Cd2 : qV) => [(0, .pointer (some ⟨p, 0, none⟩)), (1, ua), (7, .slice px l.length cx), (8, ud2), (9, .int .i64 i), (10, .pointer (some ⟨b10, 0, none⟩)), (30, .slice px l.length cx), (31, .int .i64 l.length), (32, .int .i64 i)]) g.1.1 g.1.2.1 g.1.2.2) (fun g => (fun (dead2 : List Int) (ud2 : Value) (Cd2 : qV) => [(b10, .cells [.int .i64 k.1, .int .i64 k.2].toArray 100 (0, 0))] :: [(p, .cells [.int .u32 n.num, .int .u32 n.ver, .int .i64 n.kind, .int .i64 n.size, .int .u32 n.time, .map (some ma), .map (some md), .map (some ms), u].toArray 90 (0, 0))] :: [(ma, oa')] :: [(md, od)] :: [(ms, os)] :: Cd2 :: [(b, .cells (l.flatMap zK ++ spare).toArray 100 (0, 0))] :: Ca :: G :: F) g.1.1 g.1.2.1 g.1.2.2) ?_ ?_
    ·
     refine qN <| wT wB <| wD [(37, .pure _), (38, .pure _), (39, .pure _), (40, .pure _), (41, .pure _)] (by kernel_rfl) rfl rfl rfl wm (qC rfl (fun X => qP rfl) <| qC rfl (fun X => qQ rfl) <| qC rfl (fun X => qB rfl) <| qC rfl (fun X => qI rfl rfl) <| qC rfl (fun X => wW rfl) <| ParH.nil rfl) ?_
     dsimp only [ze, List.drop, List.length]
     refine wE (by kernel_rfl) (yP (z := 0) (q := k) rfl rfl hf) ?_
     refine wE (by kernel_rfl) (zS rfl) ?_
     refine wI <| qJ <| qO <| qA rfl <| q9 (zE rfl rfl) <| qF <| qM rfl (fun hc9 => ?_) (fun hc9 => ?_)
     ·
      refine qK <| qA rfl <| qA rfl <| qG (wK rfl rfl rfl) ?_
      rintro t47 _ ⟨b47, rfl, rfl⟩
      refine qG (wg (m := 1) (sz := 1) rfl rfl hsl (wk (ys := iV [(f k).getD 0]) inferInstance rfl rfl) rfl Tryz.underlying39 rfl rfl (by omega)) ?_
      rintro t48 _ ⟨C', hs', rfl⟩
      refine qE rfl <| qT <| qW ⟨(dead ++ [(f k).getD 0], t48, C'), ?_⟩ ?_
      · (try dsimp only); exact ⟨by rw [List.length_append]; simpa [iV] using hs', by rw [if_pos hc9], by simp⟩
      · (try dsimp only); exact qX _
     ·
      refine qZ <| qW ⟨(dead, ud, Cd), ?_⟩ ?_
      · (try dsimp only); exact ⟨hsl, by rw [if_neg hc9], by omega⟩
      · (try dsimp only); exact qX _
    rintro ⟨⟨dead2, ud2, Cd2⟩, hcut⟩
    replace hcut : SlC 3 1 ud2 dead2.length (iV dead2) Cd2 ∧ dead2 = (if (f k).getD 0 ≠ 0 then dead ++ [(f k).getD 0] else dead) ∧ dead2.length ≤ dead.length + 1 := hcut
    obtain ⟨hsl2, hd2, hdl2⟩ := hcut
    show Tr _ _ _ ([(0, .pointer (some ⟨p, 0, none⟩)), (1, ua), (7, .slice px l.length cx), (8, ud2), (9, .int .i64 i), (10, .pointer (some ⟨b10, 0, none⟩)), (30, .slice px l.length cx), (31, .int .i64 l.length), (32, .int .i64 i)]) ([(b10, .cells [.int .i64 k.1, .int .i64 k.2].toArray 100 (0, 0))] :: [(p, .cells [.int .u32 n.num, .int .u32 n.ver, .int .i64 n.kind, .int .i64 n.size, .int .u32 n.time, .map (some ma), .map (some md), .map (some ms), u].toArray 90 (0, 0))] :: [(ma, oa')] :: [(md, od)] :: [(ms, os)] :: Cd2 :: [(b, .cells (l.flatMap zK ++ spare).toArray 100 (0, 0))] :: Ca :: G :: F) _ _
    rcases hat with ⟨-, h0, -⟩ | ⟨bA, capA, spA, rfl, hcsA, rfl, hcapA, hncA⟩
    · omega
    refine wT wB <| wD [(49, .pure _), (50, .pure _), (51, .pure _), (52, .pure _), (53, .pure _), (54, .pure _), (55, .pure _), (56, .pure _), (57, .pure _)] (by kernel_rfl) rfl rfl rfl wm (qC rfl (fun X => qP rfl) <| qC rfl (fun X => qQ rfl) <| qC rfl (fun X => qB rfl) <| qC rfl (fun X => qI rfl rfl) <| qC rfl (fun X => wW rfl) <| qC rfl (fun X => qP rfl) <| qC rfl (fun X => qP rfl) <| qC rfl (fun X => qx (j := i) (off := i * 1) rfl rfl rfl (by omega) (by simp)) <| qC rfl (fun X => qI rfl (show wY (iV ats ++ spA) (i * 1) = some (.int .i64 a) by rw [zB, Nat.mul_one, List.getElem?_append_left (by simp; omega)]; simp [iV, ha])) <| ParH.nil rfl) ?_
    dsimp only [ze, List.drop, List.length]
    refine zi (by kernel_rfl) (zL (r := ma) (q := k) (v := a) rfl rfl rfl hf) ?_
    rintro _ _ ⟨oa2, hf2, rfl⟩
    refine wI <| qe <| qJ <| qK <| q9 (w9 rfl rfl (by omega)) <| qA rfl <| qT <| w6 ⟨(i + 1, upd f k (some a), oa2, dead2, ud2, Cd2), ?_⟩ ?_ ?_
    · (try dsimp only); exact ⟨by omega, hf2, hsl2, by omega, by rw [hd2]; exact hcf⟩
    · (try dsimp only); omega
    · (try dsimp only); exact qX _
   ·
    refine wa <| qr <| qt <| qh <| qJ <| qN ?_
    rw [List.drop_of_length_le (by omega), Ye] at hcf
    have hfm : m.at_ = f := by rw [← hm]; unfold Wa; rw [hl, ← hcf]
    have hdd : xU n ats = dead := by unfold xU; rw [hl, ← hcf]
    obtain ⟨C0, hC0⟩ : ∃ C0, C0 = ((p, .cells (zO n ma md ms u).toArray 90 (0, 0)) :: (ma, oa') :: (md, od) :: (ms, os) :: [] : qV) := ⟨_, rfl⟩
    have h0 : Wm p m C0 := ⟨ma, md, ms, oa', od, os, u, [], by rw [hC0, ← hm]; rfl, by rw [hfm]; exact hf, by rw [← hm]; exact hM.d, by rw [← hm]; exact hM.s⟩
    refine yy (L' := C0 :: Cd :: Cp :: Ca :: G :: F) (wZ (by rw [hC0]; simp [zO])) ?_
    have hnum : m.num = n.num := by rw [← hm]; rfl
    have hver : m.ver = n.ver := by rw [← hm]; rfl
    refine qK <| qE rfl <| qF <| qN <| qO <| qA rfl <| q9 (w8 rfl) <| qA rfl <| qF <| qg <| wS (Γ := {pΓ : (Nat) × (Value) × (qV) // (fun (j : Nat) (ui : Value) (Ci : qV) => j ≤ l.length ∧ SlC 109 132 ui j ((l.take j).flatMap (fun k => kQ n.num n.ver k (yg m hmok hmfl k))) Ci) pΓ.1 pΓ.2.1 pΓ.2.2}) (fun g => (fun (j : Nat) (ui : Value) (Ci : qV) => [(0, .pointer (some ⟨p, 0, none⟩)), (8, ud), (12, ui), (59, .slice px l.length cx), (60, .int .i64 l.length), (61, .int .i64 j)]) g.1.1 g.1.2.1 g.1.2.2) (fun g => (fun (j : Nat) (ui : Value) (Ci : qV) => Ci :: C0 :: Cd :: Cp :: Ca :: G :: F) g.1.1 g.1.2.1 g.1.2.2) (fun g => (fun (j : Nat) (ui : Value) (Ci : qV) => l.length - j) g.1.1 g.1.2.1 g.1.2.2) ⟨(0, .slice none 0 0, []), by dsimp only; exact ⟨by omega, SlC.nil _ _⟩⟩ (qX _) ?_
    rintro ⟨⟨j, ui, Ci⟩, hloop⟩
    replace hloop : j ≤ l.length ∧ SlC 109 132 ui j ((l.take j).flatMap (fun k => kQ n.num n.ver k (yg m hmok hmfl k))) Ci := hloop
    obtain ⟨hj, hsi⟩ := hloop
    show Tr _ _ _ ([(0, .pointer (some ⟨p, 0, none⟩)), (8, ud), (12, ui), (59, .slice px l.length cx), (60, .int .i64 l.length), (61, .int .i64 j)]) (Ci :: C0 :: Cd :: Cp :: Ca :: G :: F) _ _
    refine qO <| q9 (wJ rfl rfl) <| qF <| qN <| qM rfl (fun hc15 => ?_) (fun hc15 => ?_)
    ·
     refine qZ <| qJ <| zY (Γ := {pΓ : (Value) × (qV) // (fun (uj : Value) (Cj : qV) => SlC 109 132 uj (j + 1) ((l.take (j + 1)).flatMap (fun k => kQ n.num n.ver k (yg m hmok hmfl k))) Cj) pΓ.1 pΓ.2}) (fun g => (fun (uj : Value) (Cj : qV) => [(0, .pointer (some ⟨p, 0, none⟩)), (8, ud), (12, uj), (59, .slice px l.length cx), (60, .int .i64 l.length), (61, .int .i64 j)]) g.1.1 g.1.2) (fun g => (fun (uj : Value) (Cj : qV) => Cj :: C0 :: Cd :: Cp :: Ca :: G :: F) g.1.1 g.1.2) ?_ ?_
     ·
      refine qg <| qN ?_
      obtain ⟨k, hk⟩ : ∃ k, l[j]? = some k := ⟨_, List.getElem?_eq_getElem (by omega)⟩
      refine qK <| qG (yD (j := j) rfl rfl hs (by omega) (by omega)) ?_
      rintro t63 _ ⟨b, cap, spare, hqc, rfl, hcap, hnc, rfl, rfl⟩
      refine q9 (zC (j := j) y9 rfl hk rfl) <| qG (qj) ?_
      rintro t14 _ ⟨b14, rfl, rfl⟩
      refine qR (qo (l := [Value.int .i64 0, Value.int .i64 0]) (vs := [.int .i64 k.1, .int .i64 k.2]) rfl rfl rfl rfl rfl) <| qF <| yb wB (show TrS _ _ _ _ [false, false, false, false, false, false, false, false, false, false, false] _ _ _ from ?_)
      refine qH 0 rfl rfl rfl (wO rfl) <| qH 1 rfl rfl rfl (wO rfl) <| qH 4 rfl rfl rfl (wO rfl) <| wv (i := 2) (j := 5) (by kernel_rfl) rfl ?_ ?_
      ·
       refine qd rfl rfl rfl (wW rfl) <| wv (i := 3) (j := 5) (by kernel_rfl) rfl ?_ ?_
       ·
        refine qd rfl rfl rfl (wM rfl (zk (C0) (Wg p m C0 h0 k))) <| qS 5 rfl <| qd rfl rfl rfl (wW rfl) <| qS 6 rfl <| qd rfl rfl rfl (wM rfl (k6 (C0) (G) (Y4 p m C0 G h0 hg hmok hmfl k (hlp k (List.mem_of_getElem? hk))))) <| qS 7 rfl <| qd rfl rfl rfl (wX rfl) <| qS 8 rfl <| w7 rfl rfl rfl (wK rfl rfl rfl) ?_
        rintro t73 _ ⟨b73, rfl, rfl⟩
        refine qS 9 rfl <| w7 rfl rfl rfl (wg (m := 1) (sz := 132) rfl rfl hsi (wk (ys := kQ n.num n.ver k (yg m hmok hmfl k)) inferInstance (by rw [← hnum, ← hver]; simp [kQ, xz]) (by simp [kQ])) (by simp [kQ, Value.oneCell', wt, u8s]) Tryz.underlying102 rfl (by simp [Value.cells]) (by omega)) ?_
        rintro t74 _ ⟨C', hs', rfl⟩
        refine qH 10 rfl rfl rfl (wP rfl) <| wF <| qe <| qW ⟨(_, C'), ?_⟩ ?_
        · (try dsimp only); rw [List.take_add_one, hk, List.flatMap_append]; simpa using hs'
        · (try dsimp only); exact qX _
       ·
        refine qd rfl rfl rfl (wW rfl) <| qS 3 rfl <| qd rfl rfl rfl (wM rfl (zk (C0) (Wg p m C0 h0 k))) <| qS 6 rfl <| qd rfl rfl rfl (wM rfl (k6 (C0) (G) (Y4 p m C0 G h0 hg hmok hmfl k (hlp k (List.mem_of_getElem? hk))))) <| qS 7 rfl <| qd rfl rfl rfl (wX rfl) <| qS 8 rfl <| w7 rfl rfl rfl (wK rfl rfl rfl) ?_
        rintro t73 _ ⟨b73, rfl, rfl⟩
        refine qS 9 rfl <| w7 rfl rfl rfl (wg (m := 1) (sz := 132) rfl rfl hsi (wk (ys := kQ n.num n.ver k (yg m hmok hmfl k)) inferInstance (by rw [← hnum, ← hver]; simp [kQ, xz]) (by simp [kQ])) (by simp [kQ, Value.oneCell', wt, u8s]) Tryz.underlying102 rfl (by simp [Value.cells]) (by omega)) ?_
        rintro t74 _ ⟨C', hs', rfl⟩
        refine qH 10 rfl rfl rfl (wP rfl) <| wF <| qe <| qW ⟨(_, C'), ?_⟩ ?_
        · (try dsimp only); rw [List.take_add_one, hk, List.flatMap_append]; simpa using hs'
        · (try dsimp only); exact qX _
      ·
       refine qd rfl rfl rfl (wW rfl) <| qS 2 rfl <| qd rfl rfl rfl (wW rfl) <| qS 3 rfl <| qd rfl rfl rfl (wM rfl (zk (C0) (Wg p m C0 h0 k))) <| qS 6 rfl <| qd rfl rfl rfl (wM rfl (k6 (C0) (G) (Y4 p m C0 G h0 hg hmok hmfl k (hlp k (List.mem_of_getElem? hk))))) <| qS 7 rfl <| qd rfl rfl rfl (wX rfl) <| qS 8 rfl <| w7 rfl rfl rfl (wK rfl rfl rfl) ?_
       rintro t73 _ ⟨b73, rfl, rfl⟩
       refine qS 9 rfl <| w7 rfl rfl rfl (wg (m := 1) (sz := 132) rfl rfl hsi (wk (ys := kQ n.num n.ver k (yg m hmok hmfl k)) inferInstance (by rw [← hnum, ← hver]; simp [kQ, xz]) (by simp [kQ])) (by simp [kQ, Value.oneCell', wt, u8s]) Tryz.underlying102 rfl (by simp [Value.cells]) (by omega)) ?_
       rintro t74 _ ⟨C', hs', rfl⟩
       refine qH 10 rfl rfl rfl (wP rfl) <| wF <| qe <| qW ⟨(_, C'), ?_⟩ ?_
       · (try dsimp only); rw [List.take_add_one, hk, List.flatMap_append]; simpa using hs'
       · (try dsimp only); exact qX _
     rintro ⟨⟨uj, Cj⟩, hcut⟩
     replace hcut : SlC 109 132 uj (j + 1) ((l.take (j + 1)).flatMap (fun k => kQ n.num n.ver k (yg m hmok hmfl k))) Cj := hcut
     have hsj := hcut
     show Tr _ _ _ ([(0, .pointer (some ⟨p, 0, none⟩)), (8, ud), (12, uj), (59, .slice px l.length cx), (60, .int .i64 l.length), (61, .int .i64 j)]) (Cj :: C0 :: Cd :: Cp :: Ca :: G :: F) _ _
     refine qK <| q9 (w9 rfl rfl (by omega)) <| qA rfl <| qT <| w6 ⟨(j + 1, uj, Cj), ?_⟩ ?_ ?_
     · (try dsimp only); exact ⟨by omega, hsj⟩
     · (try dsimp only); omega
     · (try dsimp only); exact qX _
    ·
     refine wa <| qr <| qt <| qh <| qJ <| qN <| yy (L' := Ci :: [(p, .cells [.int .u32 n.num, .int .u32 n.ver, .int .i64 n.kind, .int .i64 n.size, .int .u32 n.time, .map (some ma), .map (some md), .map (some ms), u].toArray 90 (0, 0))] :: [(ma, oa')] :: [(md, od)] :: [(ms, os)] :: Cd :: Cp :: Ca :: G :: F) (wZ (by rw [hC0]; simp [zO])) ?_
     refine qK <| qA rfl <| qA rfl <| qA rfl <| qG (kY) ?_
     rintro t79 _ ⟨b79, rfl, rfl⟩
     refine qG (kY) ?_
     rintro t80 _ ⟨b80, rfl, rfl⟩
     refine q9 (qQ rfl) <| q9 (qB rfl) <| qR (wu rfl rfl rfl) <| q9 (qQ rfl) <| q9 (qB rfl) <| qR (wu rfl rfl rfl) <| q9 (qQ rfl) <| q9 (qB rfl) <| qR (wu rfl rfl rfl) <| qm <| qA rfl <| qG (w5 rfl (we (Cd) (H.sort _ ud dead.length dead Cd hsl rfl (by omega)))) ?_
     rintro t88 _ ⟨rfl, Cd', hsd, rfl⟩
     refine qm <| qA rfl <| qA rfl <| qE rfl <| qE rfl <| qE rfl <| qT <| zN (qX (Ci :: Cd' :: [(p, .cells [.int .u32 n.num, .int .u32 n.ver, .int .i64 n.kind, .int .i64 n.size, .int .u32 n.time, .map (some ma), .map (some b79), .map (some b80), .slice none 0 0].toArray 90 (0, 0))] :: [(ma, oa')] :: [(b79, .map #[] 0)] :: [(b80, .map #[] 0)] :: G :: Ca :: F)) <| zN (wZ (L' := Ci :: Cd' :: ((p, .cells (zO (xo n ats) ma b79 b80 (.slice none 0 0)).toArray 90 (0, 0)) :: (ma, oa') :: (b79, .map #[] 0) :: (b80, .map #[] 0) :: []) :: G :: Ca :: F) (by simp [zO, xo, Wa])) ?_
     refine qJ <| qy <| Xy (.inl rfl) rfl (qu rfl) (qu rfl) (qu rfl) ?_
     have hjl : j = l.length := by omega
     rw [hjl, List.take_length] at hsi
     exact ⟨ui, ud, Ci, Cd', _, rfl, hsi, by rw [hdd]; exact hsd, ⟨ma, b79, b80, oa', _, _, .slice none 0 0, [], rfl, by rw [show (xo n ats).at_ = f from by rw [← hfm, ← hm]; rfl]; exact hf, ka _ _, ka _ _, SlC.nil _ _⟩, rfl⟩
end
end Go.Proofs.YtjikpomndbkfgaaGreatDoor
namespace Go.Sx
open Go
section
variable {P : Program} {N : Nat} {w0 : World} {E : Env} {L : Res}
theorem run_append_zeros {w : World} {t t' ty e sz by_ m : Nat} {k : IntKind} {z : Value} (ht : P.underlying t = some (.slice e)) (hsz : ∀ w, (sizeOf e).run P w = .ok sz w) (hb : TyBytes P e by_) (hz : ∀ w, (zeroValue e).run P w = .ok z w) (ht' : P.underlying t' = some (.int k))
    (hm : 1 ≤ m) (hs1 : 1 ≤ sz) (hroom : m * by_ ≤ 140737488355328) (hby : 1 ≤ by_) :
    ∃ nc d, m ≤ nc ∧ w.drawn ≤ d ∧ (Builtin.append_ #[t, t'] ty #[.slice none 0 0, .int .i64 (m : Int)]).run P w =
      .ok (.slice (some ⟨w.heap.size, 0, none⟩) m nc) { w with drawn := d, heap := w.heap.push (.cells (Builtin.zeroCells z.cells m ++ Builtin.zeroCells z.cells (nc - m)) e (0, 0)) } := by
  obtain ⟨nc, d, hch, hle, hdd⟩ := WW (P := P) (w := w) m 0 e
  have hu := qz ht' w
  obtain ⟨bi, hbi, hbb⟩ : ∃ i, (∀ w, (typeInfo e).run P w = .ok i w) ∧ i.bytes = by_ := by
    have h0 := hb.h w
    cases hi : P.info? e with
    | none => simp [typeInfo, program, Sem.run, hi, stuck] at h0
    | some i =>
      have h1 : ∀ w, (typeInfo e).run P w = .ok i w := fun w => by simp [typeInfo, program, Sem.run, hi]
      rw [h1] at h0
      simp only [Result.andThen_ok, Result.ok.injEq] at h0
      exact ⟨i, h1, h0.1⟩
  have hfits : ¬ Builtin.nextslicecap m 0 * bi.bytes > 2 ^ 48 := by
    have := growslice_fits (bytes := by_) (show 0 < m by omega) hroom
    rw [hbb]; omega
  have hnm : m ≤ 140737488355328 := by
    have := Nat.le_mul_of_pos_right m hby
    omega
  have hmax : ¬ ((m : Nat) : Int) > IntKind.i64.max := by show ¬ (m : Int) > 2 ^ 63 - 1; omega
  have hw : IntKind.i64.wrap (m : Int) = m := Yx (by omega)
  have hbig : ¬ (m : Int) * (bi.bytes : Int) > 2 ^ 48 := by
    rw [hbb]; show ¬ (m : Int) * (by_ : Int) > 281474976710656; rw [← Int.natCast_mul]; omega
  have hneg : ¬ (m : Int) < 0 := by omega
  have hz0 : ¬ m * sz = 0 := by
    have := Nat.mul_pos (show 0 < m by omega) (show 0 < sz by omega)
    omega
  have hgt : ¬ 0 + m ≤ 0 := by omega
  have hfc : ∀ w, (Builtin.firstCells sz 0 (.slice none 0 0)).run P w = Result.ok #[] w := fun w => rfl
  have hai : ∀ w, (asInt (.int .i64 (m : Int))).run P w = Result.ok (m : Int) w := fun w => rfl
  refine ⟨nc, d, hle, hdd, ?_⟩
  clear ht' hroom hb hbb
  simp only [Builtin.append_, List.getElem?_toArray, List.getElem?_cons_zero, List.getElem?_cons_succ, Sem.run_bind, qz ht, Result.andThen_ok, hsz, hu, Sem.run_pure, if_true, hai, hw, Sem.run_ite, if_neg hneg, hbi, if_neg hbig, Int.toNat_natCast, if_neg hgt, Nat.zero_add, hmax, false_and, if_false, if_neg hfits, hch, run_askRoom, Bool.not_true, Bool.false_eq_true, if_neg hz0, hz]
  rw [if_neg (show ¬ m ≤ 0 by omega)]
  simp only [hfc, Result.andThen_ok, Array.empty_append]
  rfl
theorem op_appendN {x y : Operand} {t t' ty e sz by_ m : Nat} {k : IntKind} {z : Value} [ht : y7 P t e] [hsz : TySize P e sz] [hb : TyBytes P e by_] [hz : TyZero P e z]
    (hx : opv E x = some (.slice none 0 0)) (hy : opv E y = some (.int .i64 (m : Int))) (ht' : P.underlying t' = some (.int k)) (hm : 1 ≤ m) (h1 : z.cells.all (·.oneCell') = true) (hzs : z.cells.size = sz) (hroom : m * by_ ≤ 140737488355328) (hs1 : Nat.ble 1 sz = true := by rfl) (hby : Nat.ble 1 by_ = true := by rfl) :
    OpT P N w0 E L (.call ⟨.builtin .append, #[x, y], #[t, t']⟩) ty (fun v' L' => ∃ (b nc : Nat) (spare : List Value), v' = .slice (some ⟨b, 0, none⟩) m nc ∧ m ≤ nc ∧ spare.length = nc * sz ∧ L' = [(b, .cells spare.toArray e (0, 0))] :: L) :=
  .of_runE fun o a w e1 _ h3 h4 => by
    obtain ⟨nc, d, hle, hd, hrun⟩ := run_append_zeros (P := P) (w := w) (ty := o.type) (t := t) (t' := t') (k := k) (m := m) ht.h hsz.s hb hz.h ht' hm (Nat.le_of_ble_eq_true hs1) hroom (Nat.le_of_ble_eq_true hby)
    refine ⟨_, _, { w with drawn := d, heap := w.heap.push (.cells (Builtin.zeroCells z.cells m ++ Builtin.zeroCells z.cells (nc - m)) e (0, 0)) }, ?_, ⟨w.heap.size, nc, (Builtin.zeroCells z.cells m ++ Builtin.zeroCells z.cells (nc - m)).toList, rfl, hle, ?_, rfl⟩, ?_⟩
    · obtain ⟨cc, h5⟩ := yV (P := P) (w := w) (vs := [.slice none 0 0, .int .i64 (m : Int)]) h3 (by simp [jW, hx, hy]) e1
      have happ : (builtin .append #[t, t'] o.type cc #[.slice none 0 0, .int .i64 (m : Int)]).run P w = ((Builtin.append_ #[t, t'] o.type #[.slice none 0 0, .int .i64 (m : Int)]).run P w).andThen fun v w' => .ok (.value v) w' := by simp [builtin]
      have h5' : (execOp a.eval o).run P w = ((Builtin.append_ #[t, t'] o.type #[.slice none 0 0, .int .i64 (m : Int)]).run P w).andThen fun v w' => .ok (.value v) w' := by rw [h5]; exact happ
      rw [h5', hrun]
      rfl
    · simp [jt, hzs]
      rw [← Nat.add_mul]; congr 1; omega
    · have := (h4.draw d hd).alloc (.cells (Builtin.zeroCells z.cells m ++ Builtin.zeroCells z.cells (nc - m)) e (0, 0))
      exact this
theorem Vm {x : Operand} {t ty e : TypeId} {p : Option Addr} {n c : Nat} [hs : y7 P t e] (hx : opv E x = some (.slice p n c)) :
    Op1 P N w0 E L (.call ⟨.builtin .cap, #[x], #[t]⟩) ty (.int .i64 c) L :=
  .of_run fun o a w h1 _ h3 h4 => ⟨w, by
    obtain ⟨cs, h5⟩ := yV (P := P) (w := w) (vs := [.slice p n c]) h3 (by simp [jW, hx]) h1
    rw [h5]; simp [builtin, Builtin.cap_, qz hs.h, goInt], h4⟩
theorem op_buildSlice0 {t ty e sz : Nat} [ht : y7 P t e] [hsz : TySize P e sz] :
    OpT P N w0 E L (.buildSlice t 0 ([] : List (Nat × Operand)).toArray) ty (fun v L' => ∃ b, v = .slice (some ⟨b, 0, none⟩) 0 0 ∧ L' = [(b, .cells ([] : List Value).toArray e (0, 0))] :: L) :=
  .of_runE fun o a w h1 _ h3 h4 => ⟨_, _, { w with heap := w.heap.push (.cells #[] e (0, 0)) }, by
    rw [execOp, h1]
    simp only [Instr.buildSlice, Sem.run_bind, qz ht.h, Result.andThen_ok, hsz.s]
    simp [Instr.fill, newRow, newObj, Sem.run]
    rw [show Array.range 0 = #[] from by apply Array.ext'; simp]; simp, ⟨_, rfl, rfl⟩, h4.alloc _⟩
end
end Go.Sx
namespace Go.Proofs.YtjikpomndbkfgaaGreatDoor
open Go Go.Sx Go.Nd
set_option maxRecDepth 10000
section
variable {w0 : World} {L F : Res}
theorem grow_ok (m : Nat) (hm : m ≤ 1000000) : FnT Tryz.prog w0 81 #[.slice none 0 0, .int .i64 m] F (fun v L' => ∃ C, SlC 3 1 v 0 [] C ∧ L' = C :: F) := by
  refine qi (E0 := [(0, _), (1, _)]) (N := 27) Tryz.func81 rfl rfl rfl rfl ?_
  refine qO <| qE rfl <| qF <| qN <| qO <| qA rfl <| q9 (wJ rfl rfl) <| qF <| qM rfl (fun hc1 => ?_) (fun hc1 => ?_)
  · (exfalso; omega)
  ·
   refine qZ <| qJ <| qN <| qO <| qA rfl <| qA rfl <| q9 (Vm rfl) <| qA rfl <| q9 (w8 rfl) <| q9 (zt rfl rfl (by omega)) <| q9 (zt rfl rfl (by omega)) <| qE rfl <| qT ?_
   rw [show (m : Int) - (((0 : Nat) : Int) - ((0 : Nat) : Int)) = m from by omega]
   refine qJ <| qO <| qA rfl <| q9 (y8 rfl rfl) <| qF <| qM rfl (fun hc4 => ?_) (fun hc4 => ?_)
   ·
    refine qK <| qA rfl <| qA rfl <| q9 (Vm rfl) <| q9 (kq (kl := .i64) (kh := .i64) (l := 0) (h := 0) rfl rfl rfl (by omega) (by omega) (by omega)) <| qA rfl <| qG (op_appendN (m := m) rfl rfl Tryz.underlying3 (by omega) (by simp [Value.cells, Value.oneCell']) rfl (by omega)) ?_
    rintro t22 _ ⟨b, nc, spare, rfl, hnc, hsp, rfl⟩
    refine qA rfl <| q9 (w8 rfl) <| q9 (kq (kl := .i64) (kh := .i64) (l := 0) (h := 0) rfl rfl rfl (by omega) (by omega) (by omega)) <| qE rfl <| qm <| qA rfl <| qE rfl <| qF <| qy <| wC ([(b, .cells spare.toArray 3 (0, 0))] :: F) (.inl rfl) rfl (qu rfl) ?_
    exact ⟨_, .inr ⟨b, nc, spare, by simp [yh], by simp, rfl, by simpa [Value.cells] using hsp, by omega⟩, by simp⟩
   ·
    refine qZ <| qJ <| qO <| qA rfl <| qE rfl <| qF <| qy <| wC ([] :: F) (.inl rfl) rfl (qu rfl) ?_
    exact ⟨[], SlC.nil _ _, rfl⟩
theorem WD (b : Nat) (v1 v2 : Value) (C1 C2 : qV) (xs ys : List Int) (h1 : SlC 3 1 v1 xs.length (iV xs) C1) (h2 : SlC 3 1 v2 ys.length (iV ys) C2) (hl : xs.length + ys.length ≤ 1000000) :
    FnT Tryz.prog w0 48 #[.slice (some ⟨b, 0, none⟩) 2 2] ([(b, .cells [v1, v2].toArray 39 (0, 0))] :: C1 :: C2 :: F) (fun v L' => ∃ C, SlC 3 1 v (xs ++ ys).length (iV (xs ++ ys)) C ∧ L' = C :: [(b, .cells [v1, v2].toArray 39 (0, 0))] :: C1 :: C2 :: F) := by
  obtain ⟨p1, c1, hv1⟩ := h1.slice
  obtain ⟨p2, c2, hv2⟩ := h2.slice
  refine qi (E0 := [(0, _)]) (N := 36) Tryz.func48 rfl rfl rfl rfl ?_
  refine qO <| qE rfl <| qm <| qE rfl <| qF <| qN <| qO <| qA rfl <| q9 (w8 rfl) <| qA rfl <| qF <| qg <| wS (Γ := {pΓ : (Nat) × (Int) // (fun (j : Nat) (s : Int) => j ≤ 2 ∧ (j = 0 → s = 0) ∧ (j = 1 → s = xs.length) ∧ (j = 2 → s = xs.length + ys.length)) pΓ.1 pΓ.2}) (fun g => (fun (j : Nat) (s : Int) => [(0, .slice (some ⟨b, 0, none⟩) 2 2), (3, .int .i64 s), (9, .slice (some ⟨b, 0, none⟩) 2 2), (10, .int .i64 2), (11, .int .i64 j)]) g.1.1 g.1.2) (fun g => (fun (j : Nat) (s : Int) => [(b, .cells [v1, v2].toArray 39 (0, 0))] :: C1 :: C2 :: F) g.1.1 g.1.2) (fun g => (fun (j : Nat) (s : Int) => 2 - j) g.1.1 g.1.2) ⟨(0, 0), by dsimp only; exact (by omega)⟩ (qX _) ?_
  rintro ⟨⟨j, s⟩, hloop⟩
  replace hloop : j ≤ 2 ∧ (j = 0 → s = 0) ∧ (j = 1 → s = xs.length) ∧ (j = 2 → s = xs.length + ys.length) := hloop
  obtain ⟨hj, hs0, hs1, hs2⟩ := hloop
  show Tr _ _ _ ([(0, .slice (some ⟨b, 0, none⟩) 2 2), (3, .int .i64 s), (9, .slice (some ⟨b, 0, none⟩) 2 2), (10, .int .i64 2), (11, .int .i64 j)]) ([(b, .cells [v1, v2].toArray 39 (0, 0))] :: C1 :: C2 :: F) _ _
  refine qO <| q9 (wJ rfl rfl) <| qF <| qN <| qM rfl (fun hc3 => ?_) (fun hc3 => ?_)
  ·
   refine qZ <| qJ <| qN <| qg <| qN ?_
   obtain ⟨vj, nj, hvj, hn0, hn1, ⟨pj, cj, hvj2⟩⟩ : ∃ (vj : Value) (nj : Nat), ([v1, v2] : List Value)[j]? = some vj ∧ (j = 0 → nj = xs.length) ∧ (j = 1 → nj = ys.length) ∧ ∃ p c, vj = .slice p nj c := by
     have : j = 0 ∨ j = 1 := by omega
     rcases this with rfl | rfl
     · exact ⟨v1, _, rfl, fun _ => rfl, fun h => (by cases h), p1, c1, hv1⟩
     · exact ⟨v2, _, rfl, fun h => (by cases h), fun _ => rfl, p2, c2, hv2⟩
   refine qK <| q9 (qx (j := j) (off := j * 1) rfl rfl rfl (by omega) (by simp)) ?_
   refine q9 (qI rfl (show wY [v1, v2] (j * 1) = some vj by rw [zB, Nat.mul_one]; exact hvj)) <| qE rfl <| qm <| qA rfl <| qA rfl <| q9 (w8 (by rw [hvj2]; rfl)) ?_
   refine q9 (w9 rfl rfl (by omega)) <| qE rfl <| qm <| qA rfl <| q9 (wJ rfl rfl) <| qF <| qM rfl (fun hc6 => ?_) (fun hc6 => ?_)
   · (exfalso; omega)
   ·
    refine qZ <| qe <| qJ <| qK <| q9 (w9 rfl rfl (by omega)) <| qA rfl <| qT <| w6 ⟨(j + 1, _), ?_⟩ ?_ ?_
    · (try dsimp only); refine ⟨by omega, ?_, ?_, ?_⟩ <;> omega
    · (try dsimp only); omega
    · (try dsimp only); exact qX _
  ·
   refine wa <| qr <| qt <| qh <| qJ <| qN ?_
   obtain rfl : j = 2 := by omega
   obtain rfl : s = ((xs.length + ys.length : Nat) : Int) := by rw [hs2 rfl]; omega
   refine qK <| qA rfl <| qG (w5 rfl (grow_ok (xs.length + ys.length) hl)) ?_
   rintro t24 _ ⟨Cg, hg, rfl⟩
   refine qE rfl <| qF <| qN <| qO <| qA rfl <| q9 (w8 rfl) <| qA rfl <| qF <| qg <| wS (Γ := {pΓ : (Nat) × (Value) × (qV) × (List Int) // (fun (j : Nat) (uo : Value) (Co : qV) (zs : List Int) => j ≤ 2 ∧ SlC 3 1 uo zs.length (iV zs) Co ∧ (j = 0 → zs = []) ∧ (j = 1 → zs = xs) ∧ (j = 2 → zs = xs ++ ys)) pΓ.1 pΓ.2.1 pΓ.2.2.1 pΓ.2.2.2}) (fun g => (fun (j : Nat) (uo : Value) (Co : qV) (zs : List Int) => [(6, uo), (25, .slice (some ⟨b, 0, none⟩) 2 2), (26, .int .i64 2), (27, .int .i64 j)]) g.1.1 g.1.2.1 g.1.2.2.1 g.1.2.2.2) (fun g => (fun (j : Nat) (uo : Value) (Co : qV) (zs : List Int) => Co :: [(b, .cells [v1, v2].toArray 39 (0, 0))] :: C1 :: C2 :: F) g.1.1 g.1.2.1 g.1.2.2.1 g.1.2.2.2) (fun g => (fun (j : Nat) (uo : Value) (Co : qV) (zs : List Int) => 2 - j) g.1.1 g.1.2.1 g.1.2.2.1 g.1.2.2.2) ⟨(0, t24, Cg, []), by dsimp only; exact ⟨by omega, hg, fun _ => rfl, fun h => (by cases h), fun h => (by cases h)⟩⟩ (qX _) ?_
   rintro ⟨⟨j, uo, Co, zs⟩, hloop⟩
   replace hloop : j ≤ 2 ∧ SlC 3 1 uo zs.length (iV zs) Co ∧ (j = 0 → zs = []) ∧ (j = 1 → zs = xs) ∧ (j = 2 → zs = xs ++ ys) := hloop
   obtain ⟨hj2, hsl, hz0, hz1, hz2⟩ := hloop
   show Tr _ _ _ ([(6, uo), (25, .slice (some ⟨b, 0, none⟩) 2 2), (26, .int .i64 2), (27, .int .i64 j)]) (Co :: [(b, .cells [v1, v2].toArray 39 (0, 0))] :: C1 :: C2 :: F) _ _
   refine qO <| q9 (wJ rfl rfl) <| qF <| qN <| qM rfl (fun hc11 => ?_) (fun hc11 => ?_)
   ·
    refine qZ <| qJ <| qN <| qg <| qN ?_
    obtain ⟨vj, nj, zj, hvj, hnl, hz3, hrd⟩ : ∃ (vj : Value) (nj : Nat) (zj : List Int), ([v1, v2] : List Value)[j]? = some vj ∧ nj = zj.length ∧ ((j = 0 → zj = xs) ∧ (j = 1 → zj = ys)) ∧ Reads w0 (Co :: [(b, .cells [v1, v2].toArray 39 (0, 0))] :: C1 :: C2 :: F) vj nj 1 (iV zj) := by
      have : j = 0 ∨ j = 1 := by omega
      rcases this with rfl | rfl
      · exact ⟨v1, _, xs, rfl, rfl, ⟨fun _ => rfl, fun h => (by cases h)⟩, jM h1⟩
      · exact ⟨v2, _, ys, rfl, rfl, ⟨fun h => (by cases h), fun _ => rfl⟩, jM h2⟩
    have hbd : zs.length + nj ≤ 1000000 := by
      have : j = 0 ∨ j = 1 := by omega
      rcases this with e | e
      · rw [hnl, hz3.1 e, hz0 e]; simp; omega
      · rw [hnl, hz3.2 e, hz1 e]; omega
    refine qK <| q9 (qx (j := j) (off := j * 1) rfl rfl rfl (by omega) (by simp)) ?_
    refine q9 (qI rfl (show wY [v1, v2] (j * 1) = some vj by rw [zB, Nat.mul_one]; exact hvj)) <| qE rfl <| qF <| qK <| qA rfl <| qA rfl <| qG (wg (m := nj) (sz := 1) rfl rfl hsl hrd (by simp [iV, Value.oneCell']) Tryz.underlying39 rfl rfl (by omega)) ?_
    rintro t33 _ ⟨C', hs', rfl⟩
    refine qE rfl <| qT <| qe <| qJ <| qK <| q9 (w9 rfl rfl (by omega)) <| qA rfl <| qT <| w6 ⟨(j + 1, t33, C', zs ++ zj), ?_⟩ ?_ ?_
    ·
     try dsimp only
     refine ⟨by omega, by rw [List.length_append, ← hnl]; simpa [iV] using hs', fun h => by omega, fun h => ?_, fun h => ?_⟩
     · have e : j = 0 := by omega
       rw [hz0 e, hz3.1 e]; rfl
     · have e : j = 1 := by omega
       rw [hz1 e, hz3.2 e]
    · (try dsimp only); omega
    · (try dsimp only); exact qX _
   ·
    refine wa <| qr <| qt <| qh <| qJ <| qO <| qA rfl <| qE rfl <| qF <| qy <| wC (Co :: [(b, .cells [v1, v2].toArray 39 (0, 0))] :: C1 :: C2 :: F) (.inl rfl) rfl (qu rfl) ?_
    obtain rfl := hz2 (by omega)
    exact ⟨Co, hsl, rfl⟩
structure XA (w0 : World) : Prop where
  values : ∀ (F : Res) (b r : Nat) (e : TypeId) (fr : Nat × Nat) (o : Obj) (f : Int × Int → Option Int), MapF yN (Value.int .i64) f o → (∀ k, f k ≠ none → qw k) →
    FnT Tryz.prog w0 49 #[.func (.func 83) [].toArray [.pointer (some ⟨b, 0, none⟩)].toArray] ([(b, .cells [Value.map (some r)].toArray e fr)] :: [(r, o)] :: F)
      (fun v L' => ∃ xs C, SlC 3 1 v xs.length (iV xs) C ∧ xs.Perm (allParts.filterMap f) ∧ L' = C :: [(b, .cells [Value.map (some r)].toArray e fr)] :: [(r, o)] :: F)
theorem QT (r : Nat) : FnT Tryz.prog w0 50 #[.map (some r)] F (fun v L' => ∃ b, v = .func (.func 83) [].toArray [.pointer (some ⟨b, 0, none⟩)].toArray ∧ L' = [(b, .cells [Value.map (some r)].toArray 88 (0, 0))] :: F) := by
  refine qi (E0 := [(0, _)]) (N := 4) Tryz.func50 rfl rfl rfl rfl ?_
  refine qO <| qG (wq rfl) ?_
  rintro t1 _ ⟨b1, rfl, rfl⟩
  refine qE rfl <| qm <| q9 (z6 rfl rfl) <| qE rfl <| qF <| qy <| zq (.inl rfl) rfl (qu rfl) ?_
  exact ⟨_, rfl, rfl⟩
theorem QP (HV : XA w0) (b r : Nat) (o : Obj) (f : Int × Int → Option Int) (hf : MapF yN (Value.int .i64) f o) (hk : ∀ k, f k ≠ none → qw k) :
    FnT Tryz.prog w0 49 #[.func (.func 83) [].toArray [.pointer (some ⟨b, 0, none⟩)].toArray] ([(b, .cells [Value.map (some r)].toArray 88 (0, 0))] :: [(r, o)] :: F)
      (fun v L' => ∃ xs C p c, v = .slice p xs.length c ∧ SlC 3 1 (.slice p xs.length c) xs.length (iV xs) C ∧ xs.Perm (allParts.filterMap f) ∧ L' = C :: [(b, .cells [Value.map (some r)].toArray 88 (0, 0))] :: [(r, o)] :: F) :=
  (HV.values F b r 88 (0, 0) o f hf hk).mono fun v L' ⟨xs, C, h1, h2, h3⟩ => by
    obtain ⟨p, c, rfl⟩ := h1.slice
    exact ⟨xs, C, p, c, rfl, h1, h2, h3⟩
def zr (n : NS) : List Int := srt (allParts.filterMap n.at_ ++ n.gone)
theorem je (f : Int × Int → Option Int) : (allParts.filterMap f).length ≤ 1099 := by
  refine Nat.le_trans (List.length_filterMap_le _ _) ?_
  simp [allParts]
theorem XM {xs ys : List Int} (h : xs.Perm ys) : srt xs = srt ys := by
  have key : ∀ l : List Int, (srt l).Pairwise (fun a b => a ≤ b) := fun l =>
    (List.pairwise_mergeSort (le := fun a b => decide (a ≤ b)) (fun a b c h1 h2 => by simp only [decide_eq_true_eq] at *; omega) (fun a b => by simp only [Bool.or_eq_true, decide_eq_true_eq]; omega) l).imp (fun h => of_decide_eq_true h)
  refine List.Perm.eq_of_pairwise (le := fun a b : Int => a ≤ b) (fun a b _ _ h1 h2 => by omega) (key xs) (key ys) ?_
  exact (List.mergeSort_perm xs _).trans (h.trans (List.mergeSort_perm ys _).symm)
theorem sectors_ok (H : jL w0) (HV : XA w0) (p : Nat) (n : NS) (Cn : qV) (hn : NodeC p n Cn) (hok : NOk n) (hgl : n.gone.length ≤ 800000) :
    FnT Tryz.prog w0 16 #[.pointer (some ⟨p, 0, none⟩)] (Cn :: F) (fun v L' => ∃ C', SlC 3 1 v (zr n).length (iV (zr n)) C' ∧ L' = C' :: Cn :: F) := by
  obtain ⟨ma, md, ms, oa, od, os, u, C, hM, hCn⟩ := hn.eq
  unfold zO at hCn
  obtain ⟨pu, cu, rfl⟩ := hM.g.slice
  refine FnT.pre (L' := [(p, .cells [.int .u32 n.num, .int .u32 n.ver, .int .i64 n.kind, .int .i64 n.size, .int .u32 n.time, .map (some ma), .map (some md), .map (some ms), .slice pu n.gone.length cu].toArray 90 (0, 0))] :: [(ma, oa)] :: [(md, od)] :: [(ms, os)] :: C :: F) ?_ (wZ (by rw [hCn]; simp))
  refine qi (E0 := [(0, _)]) (N := 19) Tryz.func16 rfl rfl rfl rfl ?_
  refine qO <| qE rfl <| qF <| zY (Γ := {pΓ : (Value) × (qV) × (List Int) // (fun (uo : Value) (Co : qV) (zs : List Int) => SlC 3 1 uo zs.length (iV zs) Co ∧ zs.Perm (allParts.filterMap n.at_ ++ n.gone)) pΓ.1 pΓ.2.1 pΓ.2.2}) (fun g => (fun (uo : Value) (Co : qV) (zs : List Int) => [(3, uo)]) g.1.1 g.1.2.1 g.1.2.2) (fun g => (fun (uo : Value) (Co : qV) (zs : List Int) => Co :: [(p, .cells [.int .u32 n.num, .int .u32 n.ver, .int .i64 n.kind, .int .i64 n.size, .int .u32 n.time, .map (some ma), .map (some md), .map (some ms), .slice pu n.gone.length cu].toArray 90 (0, 0))] :: [(ma, oa)] :: [(md, od)] :: [(ms, os)] :: C :: F) g.1.1 g.1.2.1 g.1.2.2) ?_ ?_
  ·
   refine yb wB (show TrS _ _ _ _ [false, false, false, false, false, false, false, false, false, false, false, false, false] _ _ _ from ?_)
   refine qH 0 rfl rfl rfl (wO rfl) <| qH 1 rfl rfl rfl (y4 rfl) <| qH 2 rfl rfl rfl (wo rfl) <| qH 6 rfl rfl rfl (wO rfl) <| qH 7 rfl rfl rfl (y4 rfl) <| qH 8 rfl rfl rfl (wo rfl) <| wv (i := 3) (j := 9) (by kernel_rfl) rfl ?_ ?_
   ·
    refine qd rfl rfl rfl (qI rfl rfl) <| wv (i := 4) (j := 9) (by kernel_rfl) rfl ?_ ?_
    ·
     refine w7 rfl rfl rfl (w5 rfl (QT ma)) ?_
     rintro t8 _ ⟨bk, rfl, rfl⟩
     refine wv (i := 5) (j := 9) (by kernel_rfl) rfl ?_ ?_
     ·
      refine w7 rfl rfl rfl (w5 rfl (kG ([(bk, .cells [Value.map (some ma)].toArray 88 (0, 0))]) ([(ma, oa)]) (QP HV bk ma oa n.at_ hM.a hok.at1))) ?_
      rintro t9 _ ⟨xs, Cx, px, cx, rfl, hx, hxp, rfl⟩
      refine qS 9 rfl <| qd rfl rfl rfl (qI rfl rfl) <| qS 10 rfl <| w7 rfl rfl rfl (wK rfl rfl rfl) ?_
      rintro t14 _ ⟨b14, rfl, rfl⟩
      refine qS 11 rfl <| w7 rfl rfl rfl (w5 rfl (jD ([(b14, .cells [.slice px xs.length cx, .slice pu n.gone.length cu].toArray 39 (0, 0))]) (Cx) (C) (WD b14 (.slice px xs.length cx) (.slice pu n.gone.length cu) Cx C xs n.gone hx hM.g (by rw [hxp.length_eq]; have := je n.at_; omega)))) ?_
      rintro t15 _ ⟨Co, hs, rfl⟩
      refine qH 12 rfl rfl rfl (wP rfl) <| wF <| qW ⟨(_, Co, xs ++ n.gone), ?_⟩ ?_
      · (try dsimp only); exact ⟨hs, hxp.append_right _⟩
      · (try dsimp only); exact qX _
     ·
      refine qd rfl rfl rfl (qI rfl rfl) <| qS 5 rfl <| w7 rfl rfl rfl (w5 rfl (kG ([(bk, .cells [Value.map (some ma)].toArray 88 (0, 0))]) ([(ma, oa)]) (QP HV bk ma oa n.at_ hM.a hok.at1))) ?_
      rintro t9 _ ⟨xs, Cx, px, cx, rfl, hx, hxp, rfl⟩
      refine qS 10 rfl <| w7 rfl rfl rfl (wK rfl rfl rfl) ?_
      rintro t14 _ ⟨b14, rfl, rfl⟩
      refine qS 11 rfl <| w7 rfl rfl rfl (w5 rfl (jD ([(b14, .cells [.slice px xs.length cx, .slice pu n.gone.length cu].toArray 39 (0, 0))]) (Cx) (C) (WD b14 (.slice px xs.length cx) (.slice pu n.gone.length cu) Cx C xs n.gone hx hM.g (by rw [hxp.length_eq]; have := je n.at_; omega)))) ?_
      rintro t15 _ ⟨Co, hs, rfl⟩
      refine qH 12 rfl rfl rfl (wP rfl) <| wF <| qW ⟨(_, Co, xs ++ n.gone), ?_⟩ ?_
      · (try dsimp only); exact ⟨hs, hxp.append_right _⟩
      · (try dsimp only); exact qX _
    ·
     refine qd rfl rfl rfl (qI rfl rfl) <| qS 4 rfl <| w7 rfl rfl rfl (w5 rfl (QT ma)) ?_
     rintro t8 _ ⟨bk, rfl, rfl⟩
     refine qS 5 rfl <| w7 rfl rfl rfl (w5 rfl (kG ([(bk, .cells [Value.map (some ma)].toArray 88 (0, 0))]) ([(ma, oa)]) (QP HV bk ma oa n.at_ hM.a hok.at1))) ?_
     rintro t9 _ ⟨xs, Cx, px, cx, rfl, hx, hxp, rfl⟩
     refine qS 10 rfl <| w7 rfl rfl rfl (wK rfl rfl rfl) ?_
     rintro t14 _ ⟨b14, rfl, rfl⟩
     refine qS 11 rfl <| w7 rfl rfl rfl (w5 rfl (jD ([(b14, .cells [.slice px xs.length cx, .slice pu n.gone.length cu].toArray 39 (0, 0))]) (Cx) (C) (WD b14 (.slice px xs.length cx) (.slice pu n.gone.length cu) Cx C xs n.gone hx hM.g (by rw [hxp.length_eq]; have := je n.at_; omega)))) ?_
     rintro t15 _ ⟨Co, hs, rfl⟩
     refine qH 12 rfl rfl rfl (wP rfl) <| wF <| qW ⟨(_, Co, xs ++ n.gone), ?_⟩ ?_
     · (try dsimp only); exact ⟨hs, hxp.append_right _⟩
     · (try dsimp only); exact qX _
   ·
    refine qd rfl rfl rfl (qI rfl rfl) <| qS 3 rfl <| qd rfl rfl rfl (qI rfl rfl) <| qS 4 rfl <| w7 rfl rfl rfl (w5 rfl (QT ma)) ?_
    rintro t8 _ ⟨bk, rfl, rfl⟩
    refine qS 5 rfl <| w7 rfl rfl rfl (w5 rfl (kG ([(bk, .cells [Value.map (some ma)].toArray 88 (0, 0))]) ([(ma, oa)]) (QP HV bk ma oa n.at_ hM.a hok.at1))) ?_
    rintro t9 _ ⟨xs, Cx, px, cx, rfl, hx, hxp, rfl⟩
    refine qS 10 rfl <| w7 rfl rfl rfl (wK rfl rfl rfl) ?_
    rintro t14 _ ⟨b14, rfl, rfl⟩
    refine qS 11 rfl <| w7 rfl rfl rfl (w5 rfl (jD ([(b14, .cells [.slice px xs.length cx, .slice pu n.gone.length cu].toArray 39 (0, 0))]) (Cx) (C) (WD b14 (.slice px xs.length cx) (.slice pu n.gone.length cu) Cx C xs n.gone hx hM.g (by rw [hxp.length_eq]; have := je n.at_; omega)))) ?_
    rintro t15 _ ⟨Co, hs, rfl⟩
    refine qH 12 rfl rfl rfl (wP rfl) <| wF <| qW ⟨(_, Co, xs ++ n.gone), ?_⟩ ?_
    · (try dsimp only); exact ⟨hs, hxp.append_right _⟩
    · (try dsimp only); exact qX _
  rintro ⟨⟨uo, Co, zs⟩, hcut⟩
  replace hcut : SlC 3 1 uo zs.length (iV zs) Co ∧ zs.Perm (allParts.filterMap n.at_ ++ n.gone) := hcut
  obtain ⟨hsl, hpm⟩ := hcut
  show Tr _ _ _ ([(3, uo)]) (Co :: [(p, .cells [.int .u32 n.num, .int .u32 n.ver, .int .i64 n.kind, .int .i64 n.size, .int .u32 n.time, .map (some ma), .map (some md), .map (some ms), .slice pu n.gone.length cu].toArray 90 (0, 0))] :: [(ma, oa)] :: [(md, od)] :: [(ms, os)] :: C :: F) _ _
  refine qO <| qA rfl <| qG (w5 rfl (we (Co) (H.sort _ uo zs.length zs Co hsl rfl (by rw [hpm.length_eq, List.length_append]; have := je n.at_; omega)))) ?_
  rintro t17 _ ⟨rfl, C', hs', rfl⟩
  refine qm <| qA rfl <| qE rfl <| qT <| zN (qX (C' :: [(p, .cells [.int .u32 n.num, .int .u32 n.ver, .int .i64 n.kind, .int .i64 n.size, .int .u32 n.time, .map (some ma), .map (some md), .map (some ms), .slice pu n.gone.length cu].toArray 90 (0, 0))] :: [(ma, oa)] :: [(md, od)] :: [(ms, os)] :: C :: F)) <| zN (wZ (L' := C' :: Cn :: F) (by rw [hCn]; simp)) ?_
  refine qJ <| qy <| zq (.inl rfl) rfl (qu rfl) <| ⟨C', ?_, rfl⟩
  rw [show zr n = srt zs from (XM hpm).symm, Ws]
  exact hs'
instance (q : Int × Int) : IntsV (zK q) [.i64, .i64] [q.1, q.2] := ⟨rfl, rfl⟩
def Vz (xs : List (Int × Int)) (k : Int × Int) : Int := if k ∈ xs then (xs.findIdx (fun q => decide (k = q)) : Int) else -1
theorem Js {k q : Int × Int} : [k.1, k.2] = [q.1, q.2] ↔ k = q := by simp [Prod.ext_iff]
theorem indexP_ok (u : Value) (C : qV) (xs : List (Int × Int)) (k : Int × Int) (hs : SlC 100 2 u xs.length (xs.flatMap zK) C) (hl : xs.length ≤ 1000000) :
    FnT Tryz.prog w0 117 #[u, yN k] (C :: F) (fun v L' => v = .int .i64 (Vz xs k) ∧ L' = C :: F) := by
  obtain ⟨pu, cu, hu⟩ := hs.slice
  unfold yN
  refine qi (E0 := [(0, _), (1, _)]) (N := 19) Tryz.func117 rfl rfl rfl rfl ?_
  refine qO <| qG (wq rfl) ?_
  rintro t3 _ ⟨b3, rfl, rfl⟩
  refine qE rfl <| qF <| qN <| qO <| qA rfl <| q9 (w8 (by rw [← hu]; rfl)) ?_
  refine qA rfl <| qF <| qg <| wS (Γ := {pΓ : (Nat) // (fun (i : Nat) => i ≤ xs.length ∧ k ∉ xs.take i) pΓ}) (fun g => (fun (i : Nat) => [(0, u), (3, .pointer (some ⟨b3, 0, none⟩)), (7, .int .i64 xs.length), (8, .int .i64 i)]) g.1) (fun g => (fun (i : Nat) => [(b3, .cells [.int .i64 k.1, .int .i64 k.2].toArray 100 (0, 0))] :: C :: F) g.1) (fun g => (fun (i : Nat) => xs.length - i) g.1) ⟨0, by dsimp only; exact ⟨by omega, by simp⟩⟩ (qX _) ?_
  rintro ⟨i, hloop⟩
  replace hloop : i ≤ xs.length ∧ k ∉ xs.take i := hloop
  obtain ⟨hi, hn⟩ := hloop
  show Tr _ _ _ ([(0, u), (3, .pointer (some ⟨b3, 0, none⟩)), (7, .int .i64 xs.length), (8, .int .i64 i)]) ([(b3, .cells [.int .i64 k.1, .int .i64 k.2].toArray 100 (0, 0))] :: C :: F) _ _
  refine qO <| q9 (wJ rfl rfl) <| qF <| qN <| qM rfl (fun hc2 => ?_) (fun hc2 => ?_)
  ·
   refine qZ <| qJ <| qN <| qg <| qO <| qA rfl <| qE rfl <| qF <| qN ?_
   obtain ⟨q, hq⟩ : ∃ q, xs[i]? = some q := ⟨_, List.getElem?_eq_getElem (by omega)⟩
   rcases hs with ⟨-, h0, -⟩ | ⟨b, cap, spare, rfl, hcs, rfl, hcap, hnc⟩
   · omega
   refine wT wB <| wD [(11, .pure _), (12, .pure _), (13, .pure _), (14, .pure _), (15, .pure _)] (by kernel_rfl) rfl rfl rfl wm (qC rfl (fun X => wW rfl) <| qC rfl (fun X => qP rfl) <| qC rfl (fun X => qP rfl) <| qC rfl (fun X => qx (j := i) (off := i * 2) rfl rfl rfl (by omega) (by simp)) <| qC rfl (fun X => zC (j := i) y9 rfl hq rfl) <| ParH.nil rfl) ?_
   dsimp only [ze, List.drop, List.length]
   refine wE (by kernel_rfl) (Wt rfl rfl) ?_
   refine wI <| qJ <| qM rfl (fun hc4 => ?_) (fun hc4 => ?_)
   ·
    refine qO <| qA rfl <| qE rfl <| qF <| qy <| wH <| qv <| k5 <| wH <| qv <| wC ([(b, .cells (xs.flatMap zK ++ spare).toArray 100 (0, 0))] :: F) (.inl rfl) rfl (qu rfl) <| ⟨?_, rfl⟩
    have e := Js.1 hc4
    obtain ⟨hlt, he⟩ := List.getElem?_eq_some_iff.1 hq
    have h1 : xs.findIdx (fun q => decide (k = q)) = i := by
      rw [List.findIdx_eq hlt]
      refine ⟨by rw [he]; simpa using e, fun j hj => ?_⟩
      have h2 : k ≠ xs[j]'(by omega) := fun h => hn (List.mem_iff_getElem.2 ⟨j, by simp; omega, by simp [h]⟩)
      simpa using h2
    unfold Vz
    rw [if_pos (e ▸ List.mem_of_getElem? hq), h1]
   ·
    refine qZ <| qe <| qJ <| qK <| q9 (w9 rfl rfl (by omega)) <| qA rfl <| qT <| w6 ⟨i + 1, ?_⟩ ?_ ?_
    ·
     try dsimp only
     refine ⟨by omega, ?_⟩
     rw [List.take_add_one, hq, List.mem_append]
     rintro (h | h)
     · exact hn h
     · exact hc4 (Js.2 (by simpa using h))
    · (try dsimp only); omega
    · (try dsimp only); exact qX _
  ·
   refine wa <| qr <| qt <| qh <| qJ <| qO <| qE rfl <| qF <| qy <| wC (C :: F) (.inl rfl) rfl (qu rfl) ?_
   rw [List.take_of_length_le (by omega)] at hn
   exact ⟨by unfold Vz; rw [if_neg hn], rfl⟩
theorem containsP_ok (u : Value) (C : qV) (xs : List (Int × Int)) (k : Int × Int) (hs : SlC 100 2 u xs.length (xs.flatMap zK) C) (hl : xs.length ≤ 1000000) :
    FnT Tryz.prog w0 89 #[u, yN k] (C :: F) (fun v L' => v = .bool (decide (k ∈ xs)) ∧ L' = C :: F) := by
  unfold yN
  refine qi (E0 := [(0, _), (1, _)]) (N := 9) Tryz.func89 rfl rfl rfl rfl ?_
  refine qO <| qG (wq rfl) ?_
  rintro t3 _ ⟨b3, rfl, rfl⟩
  refine qE rfl <| qm <| qA rfl <| q9 (wW rfl) <| q9 (wM rfl (zk (C) (indexP_ok u C xs k hs hl))) <| q9 (kr rfl rfl) <| qE rfl <| qF <| qy <| wC (C :: F) (.inl rfl) rfl (qu rfl) ?_
  exact ⟨by congr 1; unfold Vz; split <;> simp [*], rfl⟩
def Wc (n : NS) (k : Int × Int) (a : Int) : Prop := a ≠ 0 ∧ atN n k = a ∧ k ∉ yO n
noncomputable instance (n : NS) (k : Int × Int) (a : Int) : Decidable (Wc n k a) := by unfold Wc; infer_instance
theorem live_ok (H : jL w0) (HP : QA) (p : Nat) (n : NS) (Cn G : qV) (hn : NodeC p n Cn) (hg : kj G) (hok : NOk n) (k : Int × Int) (a : Int) :
    FnT Tryz.prog w0 56 #[.pointer (some ⟨p, 0, none⟩), .agg (WC n.num n.ver k).toArray, .int .i64 a] (Cn :: G :: F) (fun v L' => v = .bool (decide (Wc n k a)) ∧ L' = Cn :: G :: F) := by
  obtain ⟨ma, md, ms, oa, od, os, u, C, hM, hCn⟩ := hn.eq
  unfold zO at hCn
  obtain ⟨l, hl⟩ : ∃ l, yO n = l := ⟨_, rfl⟩
  have hpl := ZJ n
  rw [hl] at hpl
  refine qi (E0 := [(0, _), (1, _), (2, _)]) (N := 39) Tryz.func56 rfl rfl rfl rfl ?_
  refine qO <| qG (wq rfl) ?_
  rintro t4 _ ⟨b4, rfl, rfl⟩
  refine qE rfl <| qm <| q9 (qB rfl) <| q9 (qI rfl rfl) <| q9 (qB rfl) <| q9 (qI rfl rfl) <| q9 (wX rfl) <| qG (qj) ?_
  rintro t7 _ ⟨b7, rfl, rfl⟩
  refine qR (wc rfl rfl rfl rfl) <| qF <| qN <| wT wB <| wE (by kernel_rfl) (qP rfl) ?_
  refine wE (by kernel_rfl) (zE rfl rfl) ?_
  refine wE (by kernel_rfl) (qP rfl) ?_
  refine kK (s := 15) rfl (fun hg2_2 => ?_) (fun hg2_2 => ?_)
  ·
   refine wD [(16, .pure _), (17, .pure _), (18, .pure _), (19, .pure _)] (by kernel_rfl) rfl rfl rfl wm (wi rfl rfl rfl (fun X => wW rfl) <| wi rfl rfl rfl (fun X => qP rfl) <| wi rfl rfl rfl (fun X => wW rfl) <| wi rfl rfl rfl (fun X => wM rfl (zk (Cn) (Wg p n Cn (JF hn) k))) <| ParH.nil rfl) ?_
   dsimp only [ze, List.drop, List.length]
   refine kn (by kernel_rfl) rfl rfl (Wt rfl rfl) ?_
   refine wE (by kernel_rfl) (qq rfl rfl) ?_
   refine wE (by kernel_rfl) (qP rfl) ?_
   refine Z1 (L' := [(b7, .cells [.int .i64 k.1, .int .i64 k.2].toArray 100 (0, 0))] :: [(b4, .cells (WC n.num n.ver k).toArray 62 (0, 0))] :: [(p, .cells [.int .u32 n.num, .int .u32 n.ver, .int .i64 n.kind, .int .i64 n.size, .int .u32 n.time, .map (some ma), .map (some md), .map (some ms), u].toArray 90 (0, 0))] :: [(ma, oa)] :: [(md, od)] :: [(ms, os)] :: C :: G :: F) (wZ (by rw [hCn]; simp)) ?_
   refine kK (s := 22) rfl (fun hg2_9 => ?_) (fun hg2_9 => ?_)
   ·
    refine wD [(23, .pure _), (24, .pure _), (25, .pure _), (26, .pure _), (27, .pure _), (28, .pure _), (29, .pure _)] (by kernel_rfl) rfl rfl rfl wm (wi rfl rfl rfl (fun X => qP rfl) <| wi rfl rfl rfl (fun X => qQ rfl) <| wi rfl rfl rfl (fun X => qB rfl) <| wi rfl rfl rfl (fun X => qI rfl rfl) <| wi rfl rfl rfl (fun X => wW rfl) <| wi rfl rfl rfl (fun X => yP (z := 0) (q := k) rfl rfl hM.a) <| wi rfl rfl rfl (fun X => qP rfl) <| ParH.nil rfl) ?_
    dsimp only [ze, List.drop, List.length]
    refine Z1 (L' := [(b7, .cells [.int .i64 k.1, .int .i64 k.2].toArray 100 (0, 0))] :: [(b4, .cells (WC n.num n.ver k).toArray 62 (0, 0))] :: Cn :: G :: F) (wZ (by rw [hCn]; simp)) ?_
    refine kn (by kernel_rfl) rfl rfl (wn rfl rfl) ?_
    refine wE (by kernel_rfl) (qq rfl rfl) ?_
    refine wE (by kernel_rfl) (qP rfl) ?_
    refine kK (s := 32) rfl (fun hg2_19 => ?_) (fun hg2_19 => ?_)
    ·
     refine wD [(33, .pure _), (34, .act ([]) (fun v C => SlC 100 2 v (yO n).length ((yO n).flatMap zK) C)), (35, .pure _)] (by kernel_rfl) rfl rfl rfl (Qe [[]] rfl) (wi rfl rfl rfl (fun X => qP rfl) <| ParH.actG rfl rfl rfl (fun X => QB (w5 rfl (FnT.rdA2 Cn G (xJ H HP p n Cn G hn hg hok))) (fun _ _ h => h) Qd) <| wi rfl rfl rfl (fun X => wW rfl) <| ParH.nil rfl) ?_
     rintro t34 Cp hs
     dsimp only [ze, List.drop, List.length]
     refine kn (by kernel_rfl) rfl rfl (wM rfl (zk (Cp) (containsP_ok t34 Cp (yO n) k hs (by rw [hl]; omega)))) ?_
     refine kn (by kernel_rfl) rfl rfl (kX rfl) ?_
     refine wE (by kernel_rfl) (qq rfl rfl) ?_
     refine wE (by kernel_rfl) (zS rfl) ?_
     refine wI <| qJ <| qy <| wC (Cn :: G :: F) (.inl rfl) rfl (qu rfl) <| ⟨?_, rfl⟩
     congr 1
     unfold Wc atN
     first | (simp [*]; done) | (symm; simp [*]; done) | skip
    ·
     refine wD [(33, .pure undef), (34, .pure undef), (35, .pure undef)] (by kernel_rfl) rfl rfl rfl wm (zf rfl rfl rfl rfl <| zf rfl rfl rfl rfl <| zf rfl rfl rfl rfl <| ParH.nil rfl) ?_
     dsimp only [ze, List.drop, List.length]
     refine jK (by kernel_rfl) rfl rfl rfl ?_
     refine jK (by kernel_rfl) rfl rfl rfl ?_
     refine wE (by kernel_rfl) (qU rfl rfl) ?_
     refine wE (by kernel_rfl) (zS rfl) ?_
     refine wI <| qJ <| qy <| wC (Cn :: G :: F) (.inl rfl) rfl (qu rfl) <| ⟨?_, rfl⟩
     congr 1
     unfold Wc atN
     first | (simp [*]; done) | (symm; simp [*]; done) | skip
   · exact absurd rfl hg2_9
  ·
   refine wD [(16, .pure undef), (17, .pure undef), (18, .pure undef), (19, .pure undef)] (by kernel_rfl) rfl rfl rfl wm (zf rfl rfl rfl rfl <| zf rfl rfl rfl rfl <| zf rfl rfl rfl rfl <| zf rfl rfl rfl rfl <| ParH.nil rfl) ?_
   dsimp only [ze, List.drop, List.length]
   refine jK (by kernel_rfl) rfl rfl rfl ?_
   refine wE (by kernel_rfl) (qU rfl rfl) ?_
   refine wE (by kernel_rfl) (qP rfl) ?_
   refine Z1 (L' := [(b7, .cells [.int .i64 k.1, .int .i64 k.2].toArray 100 (0, 0))] :: [(b4, .cells (WC n.num n.ver k).toArray 62 (0, 0))] :: [(p, .cells [.int .u32 n.num, .int .u32 n.ver, .int .i64 n.kind, .int .i64 n.size, .int .u32 n.time, .map (some ma), .map (some md), .map (some ms), u].toArray 90 (0, 0))] :: [(ma, oa)] :: [(md, od)] :: [(ms, os)] :: C :: G :: F) (wZ (by rw [hCn]; simp)) ?_
   refine wD [(23, .pure undef), (24, .pure undef), (25, .pure undef), (26, .pure undef), (27, .pure undef), (28, .pure undef), (29, .pure undef)] (by kernel_rfl) rfl rfl rfl wm (zf rfl rfl rfl rfl <| zf rfl rfl rfl rfl <| zf rfl rfl rfl rfl <| zf rfl rfl rfl rfl <| zf rfl rfl rfl rfl <| zf rfl rfl rfl rfl <| zf rfl rfl rfl rfl <| ParH.nil rfl) ?_
   dsimp only [ze, List.drop, List.length]
   refine Z1 (L' := [(b7, .cells [.int .i64 k.1, .int .i64 k.2].toArray 100 (0, 0))] :: [(b4, .cells (WC n.num n.ver k).toArray 62 (0, 0))] :: Cn :: G :: F) (wZ (by rw [hCn]; simp)) ?_
   refine jK (by kernel_rfl) rfl rfl rfl ?_
   refine wE (by kernel_rfl) (qU rfl rfl) ?_
   refine wE (by kernel_rfl) (qP rfl) ?_
   refine wD [(33, .pure undef), (34, .pure undef), (35, .pure undef)] (by kernel_rfl) rfl rfl rfl wm (zf rfl rfl rfl rfl <| zf rfl rfl rfl rfl <| zf rfl rfl rfl rfl <| ParH.nil rfl) ?_
   dsimp only [ze, List.drop, List.length]
   refine jK (by kernel_rfl) rfl rfl rfl ?_
   refine jK (by kernel_rfl) rfl rfl rfl ?_
   refine wE (by kernel_rfl) (qU rfl rfl) ?_
   refine wE (by kernel_rfl) (zS rfl) ?_
   refine wI <| qJ <| qy <| wC (Cn :: G :: F) (.inl rfl) rfl (qu rfl) <| ⟨?_, rfl⟩
   congr 1
   unfold Wc atN
   first | (simp [*]; done) | (symm; simp [*]; done) | skip
noncomputable def QI (n : NS) (k : Int × Int) (a : Int) (g : Int → Option Sec) : (Bool × Int) × NS :=
  if Wc n k a then (if k.1 = 1 then (match g a with | none => ((false, 20), n) | some s => ((true, 0), zw n k.2 (some s))) else ((true, 0), setStale n k)) else ((false, 0), n)
theorem move_ok (H : jL w0) (HP : QA) (p : Nat) (n : NS) (Cn D G : qV) (hn : NodeC p n Cn) (hg : kj G) (hok : NOk n) (k : Int × Int) (a : Int) (rv : Value) (g : Int → Option Sec) (hr : Ks rv D g) :
    FnT Tryz.prog w0 19 #[.pointer (some ⟨p, 0, none⟩), .agg (WC n.num n.ver k).toArray, .int .i64 a, rv] (Cn :: D :: G :: F)
      (fun v L' => ∃ Cn', v = .tuple #[.bool (QI n k a g).1.1, .int .i64 (QI n k a g).1.2] ∧ NodeC p (QI n k a g).2 Cn' ∧ L' = Cn' :: D :: G :: F) := by
  obtain ⟨ma, md, ms, oa, od, os, u, C, hM, hCn⟩ := hn.eq
  unfold zO at hCn
  refine qi (E0 := [(0, _), (1, _), (2, _), (3, _)]) (N := 45) Tryz.func19 rfl rfl rfl rfl ?_
  refine qO <| qG (wq rfl) ?_
  rintro t5 _ ⟨b5, rfl, rfl⟩
  refine qE rfl <| qE rfl <| qF <| qN <| qO <| qA rfl <| q9 (wW rfl) <| qA rfl <| q9 (wM rfl (k6 (Cn) (G) (live_ok H HP p n Cn G hn hg hok k a))) <| q9 (kX rfl) <| qF <| yB rfl (fun hc1 => ?_) (fun hc1 => ?_)
  ·
   have hlv : ¬ Wc n k a := by simpa using hc1
   have hT : QI n k a g = ((false, 0), n) := by unfold QI; rw [if_neg hlv]
   refine qO <| qE rfl <| qE rfl <| qF <| qy <| qv <| wU (Cn :: D :: G :: F) (.inl rfl) rfl (qu rfl) (qu rfl) ?_
   exact ⟨Cn, by rw [hT], by rw [hT]; exact hn, rfl⟩
  ·
   have hlv : Wc n k a := by simpa using hc1
   refine qZ <| qJ <| qN <| qO <| q9 (qB rfl) <| q9 (qI rfl rfl) <| q9 (wn rfl rfl) <| qF <| qM rfl (fun hc3 => ?_) (fun hc3 => ?_)
   ·
    refine qO <| qA rfl <| qA rfl <| q9 (kP rfl rfl (Y0 D (hr w0 _ a))) <| qA rfl <| q9 (qf rfl rfl) <| q9 (qf rfl rfl) <| qG (qj) ?_
    rintro t10 _ ⟨b10, rfl, rfl⟩
    refine qR (qo rfl rfl (by simp) (by simp) (wl _)) ?_
    refine qE rfl <| qF <| qN <| qO <| qA rfl <| q9 (zE rfl rfl) <| qF <| qM rfl (fun hc5 => ?_) (fun hc5 => ?_)
    ·
     have hbk : g a = none := by
       cases h : g a with
       | none => rfl
       | some s => rw [h] at hc5; exact absurd rfl hc5
     refine qO <| qA rfl <| qE rfl <| qE rfl <| qF <| qy <| qv <| qv <| wU (Cn :: D :: G :: F) (.inl rfl) rfl (qu rfl) (qu rfl) ?_
     have hT : QI n k a g = ((false, 20), n) := by unfold QI; rw [if_pos hlv, if_pos hc3, hbk]
     exact ⟨Cn, by rw [hT, hbk]; rfl, by rw [hT]; exact hn, rfl⟩
    ·
     obtain ⟨s, hbk⟩ : ∃ s, g a = some s := by
       cases h : g a with
       | none => rw [h] at hc5; exact absurd (by decide) hc5
       | some s => exact ⟨s, rfl⟩
     rw [hbk]
     refine qZ <| qJ <| qN <| yy (L' := [(b10, .cells (wt s).toArray 55 (0, 0))] :: [(b5, .cells (WC n.num n.ver k).toArray 62 (0, 0))] :: [(p, .cells [.int .u32 n.num, .int .u32 n.ver, .int .i64 n.kind, .int .i64 n.size, .int .u32 n.time, .map (some ma), .map (some md), .map (some ms), u].toArray 90 (0, 0))] :: [(ma, oa)] :: [(md, od)] :: [(ms, os)] :: C :: D :: G :: F) (wZ (by rw [hCn]; simp)) ?_
     refine wT wB <| wD [(29, .pure _), (30, .pure _), (31, .pure _), (32, .pure _), (33, .pure _), (34, .pure _), (35, .pure _)] (by kernel_rfl) rfl rfl rfl wm (qC rfl (fun X => qP rfl) <| qC rfl (fun X => qQ rfl) <| qC rfl (fun X => qB rfl) <| qC rfl (fun X => qI rfl rfl) <| qC rfl (fun X => qB rfl) <| qC rfl (fun X => qI rfl rfl) <| qC rfl (fun X => wQ rfl (by first | exact zZ _ | simp)) <| ParH.nil rfl) ?_
     dsimp only [ze, List.drop, List.length]
     refine zi (by kernel_rfl) (zL (q := k.2) (v := s) rfl rfl rfl hM.d) ?_
     rintro _ _ ⟨od', hod', rfl⟩
     refine wI <| qJ <| qO <| qE rfl <| qE rfl <| qT <| zN (qX ([(p, .cells [.int .u32 n.num, .int .u32 n.ver, .int .i64 n.kind, .int .i64 n.size, .int .u32 n.time, .map (some ma), .map (some md), .map (some ms), u].toArray 90 (0, 0))] :: [(ma, oa)] :: [(md, od')] :: [(ms, os)] :: C :: D :: G :: F)) <| zN (wZ (L' := ((p, .cells (zO n ma md ms u).toArray 90 (0, 0)) :: (ma, oa) :: (md, od') :: (ms, os) :: C) :: D :: G :: F) (by simp [zO])) ?_
     refine qJ <| qy <| qv <| Qs (.inl rfl) rfl (qu rfl) (qu rfl) ?_
     have hT : QI n k a g = ((true, 0), zw n k.2 (some s)) := by unfold QI; rw [if_pos hlv, if_pos hc3, hbk]
     exact ⟨_, by rw [hT], by rw [hT]; exact ⟨ma, md, ms, oa, od', os, u, C, rfl, hM.a, hod', hM.s, hM.g⟩, rfl⟩
   ·
    refine qZ <| qJ <| qN <| yy (L' := [(b5, .cells (WC n.num n.ver k).toArray 62 (0, 0))] :: [(p, .cells [.int .u32 n.num, .int .u32 n.ver, .int .i64 n.kind, .int .i64 n.size, .int .u32 n.time, .map (some ma), .map (some md), .map (some ms), u].toArray 90 (0, 0))] :: [(ma, oa)] :: [(md, od)] :: [(ms, os)] :: C :: D :: G :: F) (wZ (by rw [hCn]; simp)) ?_
    refine wT wB <| wD [(36, .pure _), (37, .pure _), (38, .pure _), (39, .pure _), (40, .pure _), (41, .pure _), (42, .pure _), (43, .pure _), (44, .pure _)] (by kernel_rfl) rfl rfl rfl wm (qC rfl (fun X => qP rfl) <| qC rfl (fun X => qQ rfl) <| qC rfl (fun X => qB rfl) <| qC rfl (fun X => qI rfl rfl) <| qC rfl (fun X => qB rfl) <| qC rfl (fun X => qI rfl rfl) <| qC rfl (fun X => qB rfl) <| qC rfl (fun X => qI rfl rfl) <| qC rfl (fun X => wX rfl) <| ParH.nil rfl) ?_
    dsimp only [ze, List.drop, List.length]
    refine zi (by kernel_rfl) (zL (q := k) (v := (1 : Int)) rfl rfl rfl hM.s) ?_
    rintro _ _ ⟨os', hos', rfl⟩
    refine wI <| qJ <| qO <| qE rfl <| qE rfl <| qT <| zN (qX ([(p, .cells [.int .u32 n.num, .int .u32 n.ver, .int .i64 n.kind, .int .i64 n.size, .int .u32 n.time, .map (some ma), .map (some md), .map (some ms), u].toArray 90 (0, 0))] :: [(ma, oa)] :: [(md, od)] :: [(ms, os')] :: C :: D :: G :: F)) <| zN (wZ (L' := ((p, .cells (zO n ma md ms u).toArray 90 (0, 0)) :: (ma, oa) :: (md, od) :: (ms, os') :: C) :: D :: G :: F) (by simp [zO])) ?_
    refine qJ <| qy <| Qs (.inl rfl) rfl (qu rfl) (qu rfl) ?_
    have hT : QI n k a g = ((true, 0), setStale n k) := by unfold QI; rw [if_pos hlv, if_neg hc3]
    exact ⟨_, by rw [hT], by rw [hT]; exact ⟨ma, md, ms, oa, od, os', u, C, rfl, hM.a, hM.d, hos', hM.g⟩, rfl⟩
def jG (n : NS) (t : Int) : NS := if n.time ≠ t then { setStale n (2, 0) with time := t } else n
theorem setTime_ok (p : Nat) (n : NS) (Cn G : qV) (hn : NodeC p n Cn) (hg : kj G) (t : Int) :
    FnT Tryz.prog w0 35 #[.pointer (some ⟨p, 0, none⟩), .int .u32 t] (Cn :: G :: F) (fun v L' => v = .tuple #[] ∧ ∃ Cn', NodeC p (jG n t) Cn' ∧ L' = Cn' :: G :: F) := by
  refine nodeg_change hn hg ?_
  intro ma md ms oa od os u C e0 f0 e1 f1 e2 f2 hM
  unfold kk zO Q3
  refine qi (E0 := [(0, _), (1, _)]) (N := 19) Tryz.func35 rfl rfl rfl rfl ?_
  refine qO <| qA rfl <| q9 (qQ rfl) <| q9 (qB rfl) <| q9 (qI rfl rfl) <| qA rfl <| q9 (zE rfl rfl) <| qF <| qM rfl (fun hc0 => ?_) (fun hc0 => ?_)
  ·
   refine qO <| qA rfl <| qA rfl <| q9 (qQ rfl) <| q9 (qB rfl) <| qR (wu rfl rfl rfl) <| qF <| wT wB <| wD [(14, .pure _), (15, .pure _), (16, .pure _), (17, .pure _), (18, .pure _)] (by kernel_rfl) rfl rfl rfl wm (qC rfl (fun X => qP rfl) <| qC rfl (fun X => qQ rfl) <| qC rfl (fun X => qB rfl) <| qC rfl (fun X => qI rfl rfl) <| qC rfl (fun X => wW rfl) <| ParH.nil rfl) ?_
   dsimp only [ze, List.drop, List.length]
   refine zi (by kernel_rfl) (zL (q := (2, 0)) (v := (1 : Int)) rfl rfl rfl hM.s) ?_
   rintro _ _ ⟨os', hos', rfl⟩
   refine wI <| xW (.inr rfl) rfl  ?_
   exact ⟨rfl, ma, md, ms, oa, od, os', u, C, by unfold jG; rw [if_pos hc0]; exact ⟨hM.a, hM.d, hos', hM.g⟩, by unfold jG; rw [if_pos hc0]; rfl⟩
  ·
   refine qZ <| xW (.inr rfl) rfl  ?_
   exact ⟨rfl, ma, md, ms, oa, od, os, u, C, by unfold jG; rw [if_neg hc0]; exact hM, by unfold jG; rw [if_neg hc0]; rfl⟩
def Zb (num ver kind : Int) : NS := ⟨num, ver, kind, 0, 0, fun _ => none, fun _ => none, upd (fun _ => none) (2, 0) (some 1), []⟩
theorem Vn (G : qV) (hg : kj G) (num ver kind : Int) :
    FnT Tryz.prog w0 25 #[.int .u32 num, .int .u32 ver, .int .i64 kind] (G :: F) (fun v L' => ∃ p Cn, v = .pointer (some ⟨p, 0, none⟩) ∧ NodeC p (Zb num ver kind) Cn ∧ L' = Cn :: G :: F) := by
  obtain ⟨e0, f0, e1, f1, e2, f2, hG⟩ := id hg
  refine qi (E0 := [(0, _), (1, _), (2, _)]) (N := 17) Tryz.func25 rfl rfl rfl rfl ?_
  refine qO <| qE rfl <| qm <| qA rfl <| qA rfl <| qA rfl <| qG (kY) ?_
  rintro t10 _ ⟨b10, rfl, rfl⟩
  refine qG (kY) ?_
  rintro t11 _ ⟨b11, rfl, rfl⟩
  refine qG (kY) ?_
  rintro t12 _ ⟨b12, rfl, rfl⟩
  refine q9 (k0 (b := 0) (off := 0) (c := [Value.int .i64 2, Value.int .i64 0].toArray) (e := e0) (fr := f0) (r := [.int .i64 2, .int .i64 0]) rfl (by rw [hG]; simp) rfl (by decide)) ?_
  refine y1 (xC (enc := yN) (val := Value.int .i64) (r := b12) (q := (2, 0)) (v := (1 : Int)) rfl rfl rfl (ka _ _)) ?_
  rintro _ _ ⟨o1, ho1, rfl⟩
  refine qA rfl <| q9 (wX rfl) <| qG (wq rfl) ?_
  rintro t16 _ ⟨b16, rfl, rfl⟩
  refine qE rfl <| qT <| zN (L' := ((b16, .cells (zO (Zb num ver kind) b10 b11 b12 (.slice none 0 0)).toArray 90 (0, 0)) :: (b10, .map #[] 0) :: (b11, .map #[] 0) :: (b12, o1) :: []) :: G :: F) (by simp only [zO, Zb]; exact (yj (by intro f; simp only [List.flatten_cons, List.flatten_nil, List.append_nil, List.countP_append, List.countP_cons, List.countP_nil]; omega))) ?_
  refine qJ <| qy <| zq (.inl rfl) rfl (qu rfl) ?_
  exact ⟨_, _, rfl, ⟨b10, b11, b12, _, _, o1, _, [], rfl, ka _ _, ka _ _, ho1, SlC.nil _ _⟩, rfl⟩
end
end Go.Proofs.YtjikpomndbkfgaaGreatDoor
