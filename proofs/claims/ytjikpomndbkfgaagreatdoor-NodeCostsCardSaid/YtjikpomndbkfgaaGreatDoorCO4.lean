/- NodeCosts: for every input that the statement's row lets in the law answers true and its argument reads as before; conditions: none beyond the row's own (part 4; joined, pruned and shortened by a program of the prover's own: names of two letters stand for longer ones.) -/
import Derived.Test.YtjikpomndbkfgaaGreatDoorCO3
set_option linter.all false
set_option linter.unusedVariables false
set_option linter.unusedSimpArgs false
set_option linter.unusedSectionVars false
namespace Go.Proofs.YtjikpomndbkfgaaGreatDoor
open Go Go.Sx Go.Nd
set_option maxRecDepth 10000
section
variable {w0 : World} {L F : Res}
theorem W0 {P : Program} {N : Nat} {E : Env} {x : Operand} {t ty e sz N' b off : Nat} [ht : x7 P t N' e] [hsz : TySize P e sz] (hx : opv E x = some (.pointer (some ⟨b, off, none⟩))) (hN : Nat.ble 1 N' = true := by rfl) :
    Op1 P N w0 E L (.slice t x none none none) ty (.slice (some ⟨b, off, none⟩) N' N') L := by
  have h1 := Nat.le_of_ble_eq_true hN
  have := kW (P := P) (N := N) (w0 := w0) (L := L) (ty := ty) (t := t) (lo := none) (hi := none) (l := 0) (h := N') (kl := .i64) (kh := .i64) (sz := sz) (N' := N') hx rfl rfl (by omega) (by omega)
  rw [if_neg (by omega)] at this
  simpa using this
def jn : List Int → Int → (Int × Int → Option Int) → (Int × Int → Option Int)
  | [], _, f => f
  | x :: xs, b, f => jn xs (b + 1) (if x ≠ 0 then upd f (1, b) (some x) else f)
def yx (l f : Int) : Int := (if l = 0 then 0 else if l = 1 then 8 else 40) + f * 32
theorem blocks_node_ok (lp p ma bl off c : Nat) (n : NS) (md ms : Nat) (u rv : Value) (oa : Obj) (f : Int × Int → Option Int) (hf : MapF yN (Value.int .i64) f oa) (lc : List Value) (et : TypeId) (fr : Nat × Nat) (xs : List Int) (lv lf sl : Int)
    (hl : 0 ≤ lv ∧ lv ≤ 2) (hlf : 0 ≤ lf ∧ (lf = 0 ∨ lv = 2 ∧ lf < 32)) (hx : xs.length ≤ (if lv = 0 then 8 else 32)) (hc : ∀ (i : Nat) x, xs[i]? = some x → wY lc (off + i * 1) = some (.int .i64 x)) :
    FnT Tryz.prog w0 92 #[.pointer (some ⟨lp, 0, none⟩), .agg [.int .i64 lv, .int .i64 lf, .int .i64 sl].toArray, .slice (some ⟨bl, off, none⟩) xs.length c]
      ([(lp, .cells [.pointer (some ⟨p, 0, none⟩), rv, .int .i64 0].toArray 173 (0, 0))] :: [(p, .cells (zO n ma md ms u).toArray 90 (0, 0))] :: [(ma, oa)] :: [(bl, .cells lc.toArray et fr)] :: F)
      (fun v L' => v = .tuple #[] ∧ ∃ oa', MapF yN (Value.int .i64) (jn xs (yx lv lf) f) oa' ∧
        L' = [(lp, .cells [.pointer (some ⟨p, 0, none⟩), rv, .int .i64 0].toArray 173 (0, 0))] :: [(p, .cells (zO n ma md ms u).toArray 90 (0, 0))] :: [(ma, oa')] :: [(bl, .cells lc.toArray et fr)] :: F) := by
  unfold zO
  have hxl : xs.length ≤ 32 := by split at hx <;> omega
  refine qi (E0 := [(0, _), (1, _), (2, _)]) (N := 37) Tryz.func92 rfl rfl rfl rfl ?_
  refine qO <| qG (wq rfl) ?_
  rintro t4 _ ⟨b4, rfl, rfl⟩
  refine qm <| qA rfl <| q9 (w8 rfl) <| qA rfl <| qF <| qg <| wS (Γ := {pΓ : (Nat) × (Obj) × (Int × Int → Option Int) × (Int) // (fun (i : Nat) (oa : Obj) (f' : Int × Int → Option Int) (sl : Int) => i ≤ xs.length ∧ MapF yN (Value.int .i64) f' oa ∧ jn (xs.drop i) (yx lv lf + i) f' = jn xs (yx lv lf) f) pΓ.1 pΓ.2.1 pΓ.2.2.1 pΓ.2.2.2}) (fun g => (fun (i : Nat) (oa : Obj) (f' : Int × Int → Option Int) (sl : Int) => [(0, .pointer (some ⟨lp, 0, none⟩)), (4, .pointer (some ⟨b4, 0, none⟩)), (10, .slice (some ⟨bl, off, none⟩) xs.length c), (11, .int .i64 xs.length), (12, .int .i64 i)]) g.1.1 g.1.2.1 g.1.2.2.1 g.1.2.2.2) (fun g => (fun (i : Nat) (oa : Obj) (f' : Int × Int → Option Int) (sl : Int) => [(b4, .cells [.int .i64 lv, .int .i64 lf, .int .i64 sl].toArray 160 (0, 0))] :: [(lp, .cells [.pointer (some ⟨p, 0, none⟩), rv, .int .i64 0].toArray 173 (0, 0))] :: [(p, .cells [.int .u32 n.num, .int .u32 n.ver, .int .i64 n.kind, .int .i64 n.size, .int .u32 n.time, .map (some ma), .map (some md), .map (some ms), u].toArray 90 (0, 0))] :: [(ma, oa)] :: [(bl, .cells lc.toArray et fr)] :: F) g.1.1 g.1.2.1 g.1.2.2.1 g.1.2.2.2) (fun g => (fun (i : Nat) (oa : Obj) (f' : Int × Int → Option Int) (sl : Int) => xs.length - i) g.1.1 g.1.2.1 g.1.2.2.1 g.1.2.2.2) ⟨(0, oa, f, sl), by dsimp only; exact ⟨by omega, hf, by simp⟩⟩ (qX _) ?_
  rintro ⟨⟨i, oa, f', sl⟩, hloop⟩
  replace hloop : i ≤ xs.length ∧ MapF yN (Value.int .i64) f' oa ∧ jn (xs.drop i) (yx lv lf + i) f' = jn xs (yx lv lf) f := hloop
  obtain ⟨hi, hf', hp⟩ := hloop
  show Tr _ _ _ ([(0, .pointer (some ⟨lp, 0, none⟩)), (4, .pointer (some ⟨b4, 0, none⟩)), (10, .slice (some ⟨bl, off, none⟩) xs.length c), (11, .int .i64 xs.length), (12, .int .i64 i)]) ([(b4, .cells [.int .i64 lv, .int .i64 lf, .int .i64 sl].toArray 160 (0, 0))] :: [(lp, .cells [.pointer (some ⟨p, 0, none⟩), rv, .int .i64 0].toArray 173 (0, 0))] :: [(p, .cells [.int .u32 n.num, .int .u32 n.ver, .int .i64 n.kind, .int .i64 n.size, .int .u32 n.time, .map (some ma), .map (some md), .map (some ms), u].toArray 90 (0, 0))] :: [(ma, oa)] :: [(bl, .cells lc.toArray et fr)] :: F) _ _
  refine qO <| q9 (wJ rfl rfl) <| qF <| qN <| qM rfl (fun hc2 => ?_) (fun hc2 => ?_)
  ·
   refine qZ <| qJ <| qN <| qg <| qN ?_
   obtain ⟨x, hx1⟩ : ∃ x, xs[i]? = some x := ⟨_, List.getElem?_eq_getElem (by omega)⟩
   rw [kJ hx1, jn] at hp
   refine qK <| qA rfl <| q9 (qx (j := i) (off := off + i * 1) rfl rfl rfl (by omega) (by simp)) ?_
   refine q9 (qI rfl (hc i x hx1)) <| qE rfl <| qE rfl <| qm <| qA rfl <| q9 (zE rfl rfl) <| qF <| qM rfl (fun hc4 => ?_) (fun hc4 => ?_)
   ·
    refine qO <| qA rfl <| q9 (qB rfl) <| qR (wu rfl rfl rfl) <| qm <| q9 (wW rfl) <| q9 (wM rfl (KW lv lf i hl hlf ⟨by omega, by split at hx <;> (rename_i h; first | rw [if_pos h] | rw [if_neg h]) <;> omega⟩)) <| qA rfl <| q9 (qf rfl rfl) <| q9 (qf rfl rfl) <| qE rfl <| qE rfl <| qF <| qK <| qA rfl <| q9 (qQ rfl) <| q9 (qB rfl) <| q9 (qI rfl rfl) <| q9 (qQ rfl) <| q9 (qB rfl) <| q9 (qI rfl rfl) <| qA rfl <| q9 (wX rfl) <| qA rfl <| y1 (zL (r := ma) (q := (1, yx lv lf + i)) (v := x) rfl rfl rfl hf') ?_
    rintro _ _ ⟨oa', hoa', rfl⟩
    refine qT <| qe <| qJ <| qK <| q9 (w9 rfl rfl (by omega)) <| qA rfl <| qT <| w6 ⟨(i + 1, oa', upd f' (1, yx lv lf + i) (some x), i), ?_⟩ ?_ ?_
    · (try dsimp only); rw [if_pos hc4] at hp; exact ⟨by omega, hoa', by rw [← hp, Int.add_assoc]; rfl⟩
    · (try dsimp only); omega
    · (try dsimp only); exact qX _
   ·
    refine qZ <| qe <| qJ <| qK <| q9 (w9 rfl rfl (by omega)) <| qA rfl <| qT <| w6 ⟨(i + 1, oa, f', sl), ?_⟩ ?_ ?_
    · (try dsimp only); rw [if_neg hc4] at hp; exact ⟨by omega, hf', by rw [← hp, Int.add_assoc]; rfl⟩
    · (try dsimp only); omega
    · (try dsimp only); exact qX _
  ·
   refine wa <| qr <| qt <| qh <| kA ([(lp, .cells [.pointer (some ⟨p, 0, none⟩), rv, .int .i64 0].toArray 173 (0, 0))] :: [(p, .cells [.int .u32 n.num, .int .u32 n.ver, .int .i64 n.kind, .int .i64 n.size, .int .u32 n.time, .map (some ma), .map (some md), .map (some ms), u].toArray 90 (0, 0))] :: [(ma, oa)] :: [(bl, .cells lc.toArray et fr)] :: F) (.inr rfl) rfl  ?_
   rw [List.drop_of_length_le (by omega), jn] at hp
   exact ⟨rfl, oa, by rw [← hp]; exact hf', rfl⟩
def kL : List Int := List.replicate 32 0
theorem KO (lp p ma : Nat) (n : NS) (md ms : Nat) (u rv : Value) (oa : Obj) (f : Int × Int → Option Int) (hf : MapF yN (Value.int .i64) f oa) (D : qV) (g : Int → Option Sec) (hr : Ks rv D g) (k : Int × Int) (a : Int)
    (ll : List Int) (hll : jY ll) (h0 : a = 0 → ll = kL) (h1 : a ≠ 0 → g a = some (jy ll hll)) :
    FnT Tryz.prog w0 93 #[.pointer (some ⟨lp, 0, none⟩), yN k, .int .i64 a]
      ([(lp, .cells [.pointer (some ⟨p, 0, none⟩), rv, .int .i64 0].toArray 173 (0, 0))] :: [(p, .cells (zO n ma md ms u).toArray 90 (0, 0))] :: [(ma, oa)] :: D :: F)
      (fun v L' => v = .agg (iV ll).toArray ∧ ∃ oa', MapF yN (Value.int .i64) (if a = 0 then f else upd f k (some a)) oa' ∧
        L' = [(lp, .cells [.pointer (some ⟨p, 0, none⟩), rv, .int .i64 0].toArray 173 (0, 0))] :: [(p, .cells (zO n ma md ms u).toArray 90 (0, 0))] :: [(ma, oa')] :: D :: F) := by
  unfold zO
  rw [show yN k = Value.agg [.int .i64 k.1, .int .i64 k.2].toArray from rfl]
  have hlen := hll.len
  refine qi (E0 := [(0, _), (1, _), (2, _)]) (N := 55) Tryz.func93 rfl rfl rfl rfl ?_
  refine qO <| qG (wq rfl) ?_
  rintro t4 _ ⟨b4, rfl, rfl⟩
  refine qG (qj) ?_
  rintro t6 _ ⟨b6, rfl, rfl⟩
  refine qF <| qN <| qO <| qA rfl <| q9 (wn rfl rfl) <| qA rfl <| qY (s := 12) rfl (fun hg1_2 => ?_) (fun hg1_2 => ?_)
  ·
   have ha0 : a = 0 := hg1_2
   refine qL rfl rfl rfl <| qL rfl rfl rfl <| qL rfl rfl rfl <| qL rfl rfl rfl <| qL rfl rfl rfl <| q9 (qq rfl rfl) <| qF <| zM rfl <| qO <| q9 (kI (z := .agg (iV kL).toArray) rfl Tryz.underlying175 rfl (fun _ h => by cases h) (fun _ _ h => by cases h; exact ⟨_, inferInstance⟩)) ?_
   refine qR (qo (vs := iV kL) rfl rfl rfl rfl (xY _)) <| qF <| qy <| qv <| wC ([(lp, .cells [.pointer (some ⟨p, 0, none⟩), rv, .int .i64 0].toArray 173 (0, 0))] :: [(p, .cells [.int .u32 n.num, .int .u32 n.ver, .int .i64 n.kind, .int .i64 n.size, .int .u32 n.time, .map (some ma), .map (some md), .map (some ms), u].toArray 90 (0, 0))] :: [(ma, oa)] :: D :: F) (.inl rfl) rfl (zR rfl (by simp [hlen, kL])) ?_
   exact ⟨by rw [h0 ha0], oa, by rw [if_pos ha0]; exact hf, rfl⟩
  ·
   have ha0 : ¬ a = 0 := hg1_2
   refine qD rfl rfl (qP rfl) <| qD rfl rfl (qQ rfl) <| qD rfl rfl (qB rfl) <| qD rfl rfl (qI rfl rfl) <| qD rfl rfl (zE rfl rfl) <| q9 (qU rfl rfl) <| qF <| qM rfl (fun hc1 => ?_) (fun hc1 => ?_)
   · exact absurd rfl hc1
   ·
    refine qZ <| qJ <| qN <| wT wB <| wD [(20, .pure _), (21, .pure _), (22, .pure _), (23, .pure _), (24, .pure _), (25, .pure _), (26, .pure _), (27, .pure _), (28, .pure _)] (by kernel_rfl) rfl rfl rfl wm (qC rfl (fun X => qP rfl) <| qC rfl (fun X => qQ rfl) <| qC rfl (fun X => qB rfl) <| qC rfl (fun X => qI rfl rfl) <| qC rfl (fun X => qQ rfl) <| qC rfl (fun X => qB rfl) <| qC rfl (fun X => qI rfl rfl) <| qC rfl (fun X => wW rfl) <| qC rfl (fun X => qP rfl) <| ParH.nil rfl) ?_
    dsimp only [ze, List.drop, List.length]
    refine zi (by kernel_rfl) (zL (r := ma) (q := k) (v := a) rfl rfl rfl hf) ?_
    rintro _ _ ⟨oa', hoa', rfl⟩
    refine wI <| qJ <| qO <| qA rfl <| q9 (qQ rfl) <| q9 (qB rfl) <| q9 (qI rfl rfl) <| qA rfl <| q9 (kP rfl rfl (Y0 D (hr w0 _ a))) ?_
    rw [h1 ha0]
    refine qA rfl <| q9 (qf rfl rfl) <| q9 (qf rfl rfl) <| qG (qj) ?_
    rintro t7 _ ⟨b7, rfl, rfl⟩
    refine qR (qo rfl rfl (by simp) (by simp) (wl _)) ?_
    refine qE rfl <| qF <| qN <| qO <| qA rfl <| q9 (zE rfl rfl) <| qF <| qM rfl (fun hc5 => ?_) (fun hc5 => ?_)
    · exact absurd rfl hc5
    ·
     refine qZ <| qJ <| qO <| q9 (wQ rfl (by simp)) ?_
     refine q9 (wM rfl (readPointers_ok ll hll)) <| qA rfl <| q9 (qf rfl rfl) <| q9 (qf rfl rfl) <| qG (qj) ?_
     rintro t9 _ ⟨b9, rfl, rfl⟩
     refine qR (qo rfl rfl (by simp) (by simp [hlen]) (xY _)) ?_
     refine qE rfl <| qm <| qA rfl <| qA rfl <| q9 (qQ rfl) <| q9 (qB rfl) <| qR (wu rfl rfl rfl) <| qm <| q9 (wQ rfl (by simp [hlen])) ?_
     refine qR (qo rfl rfl (by simp) (by simp [hlen]) (xY _)) ?_
     refine qF <| qy <| wC ([(lp, .cells [.pointer (some ⟨p, 0, none⟩), rv, .int .i64 0].toArray 173 (0, 0))] :: [(p, .cells [.int .u32 n.num, .int .u32 n.ver, .int .i64 n.kind, .int .i64 n.size, .int .u32 n.time, .map (some ma), .map (some md), .map (some ms), u].toArray 90 (0, 0))] :: [(ma, oa')] :: D :: F) (.inl rfl) rfl (zR rfl (by simp [hlen, kL])) ?_
     exact ⟨rfl, oa', by rw [if_neg ha0]; exact hoa', rfl⟩
theorem Wi (lp p ma bl off c m : Nat) (n : NS) (md ms : Nat) (u rv : Value) (oa : Obj) (f : Int × Int → Option Int) (hf : MapF yN (Value.int .i64) f oa) (lc : List Value) (et : TypeId) (fr : Nat × Nat) (xs : List Int) (lv lf sl : Int) (hm : xs.length = m)
    (hl : 0 ≤ lv ∧ lv ≤ 2) (hlf : 0 ≤ lf ∧ (lf = 0 ∨ lv = 2 ∧ lf < 32)) (hx : m ≤ (if lv = 0 then 8 else 32)) (hc : ∀ (i : Nat) x, xs[i]? = some x → wY lc (off + i * 1) = some (.int .i64 x)) :
    FnT Tryz.prog w0 92 #[.pointer (some ⟨lp, 0, none⟩), .agg [.int .i64 lv, .int .i64 lf, .int .i64 sl].toArray, .slice (some ⟨bl, off, none⟩) m c]
      ([(lp, .cells [.pointer (some ⟨p, 0, none⟩), rv, .int .i64 0].toArray 173 (0, 0))] :: [(p, .cells (zO n ma md ms u).toArray 90 (0, 0))] :: [(ma, oa)] :: [(bl, .cells lc.toArray et fr)] :: F)
      (fun v L' => v = .tuple #[] ∧ ∃ oa', MapF yN (Value.int .i64) (jn xs (yx lv lf) f) oa' ∧
        L' = [(lp, .cells [.pointer (some ⟨p, 0, none⟩), rv, .int .i64 0].toArray 173 (0, 0))] :: [(p, .cells (zO n ma md ms u).toArray 90 (0, 0))] :: [(ma, oa')] :: [(bl, .cells lc.toArray et fr)] :: F) := by
  subst hm
  exact blocks_node_ok lp p ma bl off c n md ms u rv oa f hf lc et fr xs lv lf sl hl hlf hx hc
def Wd (l2 : List Int) (ll : Nat → List Int) : Nat → (Int × Int → Option Int) → (Int × Int → Option Int)
  | 0, f => f
  | j + 1, f => jn (ll j) (yx 2 j) (if l2.getD j 0 = 0 then Wd l2 ll j f else upd (Wd l2 ll j f) (5, (j : Int)) (some (l2.getD j 0)))
def XV (k : Int × Int) (a : Int) (f : Int × Int → Option Int) : Int × Int → Option Int := if a = 0 then f else upd f k (some a)
def YY (x : Ino) (a : Int) (l1 l2 : List Int) (ll : Nat → List Int) : Int × Int → Option Int :=
  Wd l2 ll 32 (XV (4, 0) x.db (jn l1 (yx 1 0) (XV (3, 0) x.sg (jn x.d (yx 0 0) (upd (fun _ => none) (2, 0) (some a))))))
def VR (x : Ino) (a : Int) (l1 l2 : List Int) (ll : Nat → List Int) : NS := ⟨x.num, x.ver, x.kind, x.size, x.time, YY x a l1 l2 ll, fun _ => none, fun _ => none, []⟩
theorem load_ok (G D : qV) (hg : kj G) (x : Ino) (hx : x.Ok) (hsz : x.size ≤ 136192) (a : Int) (rv : Value) (g : Int → Option Sec) (hr : Ks rv D g) (l1 l2 : List Int) (ll : Nat → List Int)
    (h1 : jY l1) (h10 : x.sg = 0 → l1 = kL) (h11 : x.sg ≠ 0 → g x.sg = some (jy l1 h1)) (h2 : jY l2) (h20 : x.db = 0 → l2 = kL) (h21 : x.db ≠ 0 → g x.db = some (jy l2 h2))
    (h3 : ∀ i, jY (ll i)) (h30 : ∀ i, l2.getD i 0 = 0 → ll i = kL) (h31 : ∀ i, i < 32 → l2.getD i 0 ≠ 0 → g (l2.getD i 0) = some (jy (ll i) (h3 i))) :
    FnT Tryz.prog w0 68 #[.agg (wt (Zd x hx)).toArray, .int .i64 a, rv] (D :: G :: F)
      (fun v L' => ∃ p Cn, v = .tuple #[.pointer (some ⟨p, 0, none⟩), .int .i64 0] ∧ NodeC p (VR x a l1 l2 ll) Cn ∧ L' = Cn :: D :: G :: F) := by
  obtain ⟨e0, f0, e1, f1, e2, f2, hG⟩ := id hg
  have hxs := hx.size
  have hlen1 := h1.len
  have hlen2 := h2.len
  have hcv : xa rv [rv] := by
    obtain ⟨rf, ra, rc, hrv, _, _⟩ := (hr w0 F 0).ex
    rw [hrv]; infer_instance
  refine qi (E0 := [(0, _), (1, _), (2, _)]) (N := 105) Tryz.func68 rfl rfl rfl rfl ?_
  refine qO <| qG (wq rfl) ?_
  rintro t3 _ ⟨b3, rfl, rfl⟩
  refine qE rfl <| qE rfl <| qm <| q9 (wQ rfl (by simp)) ?_
  refine q9 (wM rfl (readInode_ok x hx)) <| qA rfl <| q9 (qf rfl rfl) <| q9 (qf rfl rfl) <| qG (qj) ?_
  rintro t8 _ ⟨b8, rfl, rfl⟩
  refine qR (qo rfl rfl Wf (j3 hx) (KT x)) <| qE rfl <| qF <| qN <| qO <| qA rfl <| q9 (zE rfl rfl) <| qA rfl <| qY (s := 24) rfl (fun hg2_2 => ?_) (fun hg2_2 => ?_)
  · exact absurd rfl hg2_2
  ·
   refine qD rfl rfl (qB rfl) <| qD rfl rfl (qI rfl rfl) <| qD rfl rfl (y8 rfl rfl) <| q9 (qU rfl rfl) <| qF <| qM rfl (fun hc2 => ?_) (fun hc2 => ?_)
   · (exfalso; omega)
   ·
    refine qZ <| qJ <| qO <| q9 (qB rfl) <| q9 (qI rfl rfl) <| q9 (qB rfl) <| q9 (qI rfl rfl) <| q9 (qB rfl) <| q9 (qI rfl rfl) <| qG (w5 rfl (we (G) (Vn G hg x.num x.ver x.kind))) ?_
    rintro t35 _ ⟨p, Cn, rfl, hn, rfl⟩
    refine qE rfl <| qF <| qN ?_
    obtain ⟨ma, md, ms, oa, od, os, u, C, hM, hCn⟩ := hn.eq
    unfold zO Zb at hCn
    dsimp only at hCn
    obtain ⟨n, hnd⟩ : ∃ n : NS, n = ⟨x.num, x.ver, x.kind, x.size, x.time, fun _ => none, fun _ => none, fun _ => none, []⟩ := ⟨_, rfl⟩
    refine yy (L' := [(p, .cells [.int .u32 x.num, .int .u32 x.ver, .int .i64 x.kind, .int .i64 0, .int .u32 0, .map (some ma), .map (some md), .map (some ms), u].toArray 90 (0, 0))] :: [(ma, oa)] :: [(md, od)] :: [(ms, os)] :: C :: G :: [(b8, .cells (yL x).toArray 168 (0, 0))] :: D :: F) (fun w hw => (qX ([(p, .cells [.int .u32 x.num, .int .u32 x.ver, .int .i64 x.kind, .int .i64 0, .int .u32 0, .map (some ma), .map (some md), .map (some ms), u].toArray 90 (0, 0))] :: [(ma, oa)] :: [(md, od)] :: [(ms, os)] :: C :: G :: [(b8, .cells (yL x).toArray 168 (0, 0))] :: D :: F)) w ((wZ (L' := [(p, .cells [.int .u32 x.num, .int .u32 x.ver, .int .i64 x.kind, .int .i64 0, .int .u32 0, .map (some ma), .map (some md), .map (some ms), u].toArray 90 (0, 0))] :: [(ma, oa)] :: [(md, od)] :: [(ms, os)] :: C :: G :: [(b8, .cells (yL x).toArray 168 (0, 0))] :: [(b3, .cells (wt (Zd x hx)).toArray 55 (0, 0))] :: D :: F) (by rw [hCn]; simp)) w hw)) ?_
    refine qK <| qA rfl <| qA rfl <| q9 (qB rfl) <| q9 (qI rfl rfl) <| q9 (qB rfl) <| q9 (qI rfl rfl) <| q9 (qQ rfl) <| q9 (qB rfl) <| qR (wu rfl rfl rfl) <| q9 (qQ rfl) <| q9 (qB rfl) <| qR (wu rfl rfl rfl) <| qF <| qN <| wT wB <| wD [(46, .pure _), (47, .pure _), (48, .pure _), (49, .pure _), (50, .pure _), (51, .pure _)] (by kernel_rfl) rfl rfl rfl wm (qC rfl (fun X => qP rfl) <| qC rfl (fun X => qQ rfl) <| qC rfl (fun X => qB rfl) <| qC rfl (fun X => qI rfl rfl) <| qC rfl (fun X => k0 (b := 0) (off := 0) (c := [Value.int .i64 2, Value.int .i64 0].toArray) (e := e0) (fr := f0) (r := [.int .i64 2, .int .i64 0]) rfl (by rw [hG]; simp) rfl (by decide)) <| qC rfl (fun X => qP rfl) <| ParH.nil rfl) ?_
    dsimp only [ze, List.drop, List.length]
    refine zi (by kernel_rfl) (zL (r := ma) (q := (2, 0)) (v := a) rfl rfl rfl hM.a) ?_
    rintro _ _ ⟨oa1, ho1, rfl⟩
    refine wI <| qJ <| qO <| qA rfl <| qG (kY) ?_
    rintro t53 _ ⟨b53, rfl, rfl⟩
    refine q9 (qQ rfl) <| q9 (qB rfl) <| qR (wu rfl rfl rfl) <| qT ?_
    have hnv : zO n ma md b53 u = [.int .u32 x.num, .int .u32 x.ver, .int .i64 x.kind, .int .i64 x.size, .int .u32 x.time, .map (some ma), .map (some md), .map (some b53), u] := by rw [hnd]; rfl
    refine zN (qX ([(p, .cells [.int .u32 x.num, .int .u32 x.ver, .int .i64 x.kind, .int .i64 x.size, .int .u32 x.time, .map (some ma), .map (some md), .map (some b53), u].toArray 90 (0, 0))] :: [(ma, oa1)] :: [(md, od)] :: [(b53, .map #[] 0)] :: C :: G :: [(b8, .cells (yL x).toArray 168 (0, 0))] :: D :: F)) ?_
    rw [← hnv]
    refine qJ <| qO <| qA rfl <| qA rfl <| q9 (wX rfl) <| qG (wq rfl) ?_
    rintro t59 _ ⟨b59, rfl, rfl⟩
    refine qE rfl <| qm <| qA rfl <| q9 (kI rfl Tryz.underlying160 rfl (fun _ _ => ⟨_, inferInstance⟩) (fun _ _ h => by cases h)) ?_
    refine q9 (qB rfl) <| q9 (W0 rfl) <| qG (w5 rfl (xp ([(b59, .cells [.pointer (some ⟨p, 0, none⟩), rv, .int .i64 0].toArray 173 (0, 0))]) ([(p, .cells (zO n ma md b53 u).toArray 90 (0, 0))]) ([(ma, oa1)]) ([(b8, .cells (yL x).toArray 168 (0, 0))]) (Wi b59 p ma b8 5 8 8 n md b53 u rv oa1 _ ho1 (yL x) 168 (0, 0) x.d 0 0 0 hx.len (by omega) (by omega) (by simp) (fun i y hy => by rw [Nat.mul_one]; exact V7 hy)))) ?_
    rintro t64 _ ⟨rfl, oa2, ho2, rfl⟩
    refine qm <| qA rfl <| q9 (k0 (b := 2) (off := 0) (c := [Value.int .i64 3, Value.int .i64 0].toArray) (e := e2) (fr := f2) (r := [.int .i64 3, .int .i64 0]) rfl (by rw [hG]; simp) rfl (by decide)) ?_
    refine q9 (qB rfl) <| q9 (qI rfl (Yr hx.len).1) <| qG (w5 rfl (xp ([(b59, .cells [.pointer (some ⟨p, 0, none⟩), rv, .int .i64 0].toArray 173 (0, 0))]) ([(p, .cells (zO n ma md b53 u).toArray 90 (0, 0))]) ([(ma, oa2)]) (D) (KO b59 p ma n md b53 u rv oa2 _ ho2 D g hr (3, 0) x.sg l1 h1 h10 h11))) ?_
    rintro t69 _ ⟨rfl, oa3, ho3, rfl⟩
    refine qG (qj) ?_
    rintro t12 _ ⟨b12, rfl, rfl⟩
    refine qR (qo rfl rfl (by simp) (by simp [hlen1]) (xY _)) ?_
    refine qm <| qA rfl <| q9 (wX rfl) <| q9 (W0 rfl) <| qG (w5 rfl (xp ([(b59, .cells [.pointer (some ⟨p, 0, none⟩), rv, .int .i64 0].toArray 173 (0, 0))]) ([(p, .cells (zO n ma md b53 u).toArray 90 (0, 0))]) ([(ma, oa3)]) ([(b12, .cells (iV l1).toArray 175 (0, 0))]) (Wi b59 p ma b12 0 32 32 n md b53 u rv oa3 _ ho3 (iV l1) 175 (0, 0) l1 1 0 0 hlen1 (by omega) (by omega) (by simp) (fun i y hy => by rw [Nat.mul_one, Nat.zero_add]; exact KX hy)))) ?_
    rintro t73 _ ⟨rfl, oa4, ho4, rfl⟩
    refine qm <| qA rfl <| q9 (k0 (b := 1) (off := 0) (c := [Value.int .i64 4, Value.int .i64 0].toArray) (e := e1) (fr := f1) (r := [.int .i64 4, .int .i64 0]) rfl (by rw [hG]; simp) rfl (by decide)) ?_
    refine q9 (qB rfl) <| q9 (qI rfl (Yr hx.len).2) <| qG (w5 rfl (xp ([(b59, .cells [.pointer (some ⟨p, 0, none⟩), rv, .int .i64 0].toArray 173 (0, 0))]) ([(p, .cells (zO n ma md b53 u).toArray 90 (0, 0))]) ([(ma, oa4)]) (D) (KO b59 p ma n md b53 u rv oa4 _ ho4 D g hr (4, 0) x.db l2 h2 h20 h21))) ?_
    rintro t78 _ ⟨rfl, oa5, ho5, rfl⟩
    refine qG (qj) ?_
    rintro t13 _ ⟨b13, rfl, rfl⟩
    refine qR (qo rfl rfl (by simp) (by simp [hlen2]) (xY _)) ?_
    refine qF <| qN <| qO <| q9 (wQ rfl (by simp [hlen2])) ?_
    refine qA rfl <| qF <| qg <| wS (Γ := {pΓ : (Nat) × (Obj) // (fun (i : Nat) (oa : Obj) => i ≤ 32 ∧ MapF yN (Value.int .i64) (Wd l2 ll i (XV (4, 0) x.db (jn l1 (yx 1 0) (XV (3, 0) x.sg (jn x.d (yx 0 0) (upd (fun _ => none) (2, 0) (some a))))))) oa) pΓ.1 pΓ.2}) (fun g => (fun (i : Nat) (oa : Obj) => [(10, .pointer (some ⟨p, 0, none⟩)), (11, .pointer (some ⟨b59, 0, none⟩)), (79, .agg (iV l2).toArray), (80, .int .i64 i)]) g.1.1 g.1.2) (fun g => (fun (i : Nat) (oa : Obj) => [(b59, .cells [.pointer (some ⟨p, 0, none⟩), rv, .int .i64 0].toArray 173 (0, 0))] :: [(p, .cells (zO n ma md b53 u).toArray 90 (0, 0))] :: [(ma, oa)] :: [(md, od)] :: [(b53, .map #[] 0)] :: C :: G :: D :: F) g.1.1 g.1.2) (fun g => (fun (i : Nat) (oa : Obj) => 32 - i) g.1.1 g.1.2) ⟨(0, oa5), by dsimp only; exact ⟨by omega, ho5⟩⟩ (qX _) ?_
    rintro ⟨⟨i, oa⟩, hloop⟩
    replace hloop : i ≤ 32 ∧ MapF yN (Value.int .i64) (Wd l2 ll i (XV (4, 0) x.db (jn l1 (yx 1 0) (XV (3, 0) x.sg (jn x.d (yx 0 0) (upd (fun _ => none) (2, 0) (some a))))))) oa := hloop
    obtain ⟨hi, hf⟩ := hloop
    show Tr _ _ _ ([(10, .pointer (some ⟨p, 0, none⟩)), (11, .pointer (some ⟨b59, 0, none⟩)), (79, .agg (iV l2).toArray), (80, .int .i64 i)]) ([(b59, .cells [.pointer (some ⟨p, 0, none⟩), rv, .int .i64 0].toArray 173 (0, 0))] :: [(p, .cells (zO n ma md b53 u).toArray 90 (0, 0))] :: [(ma, oa)] :: [(md, od)] :: [(b53, .map #[] 0)] :: C :: G :: D :: F) _ _
    refine qO <| q9 (wJ rfl rfl) <| qF <| qN <| qM rfl (fun hc14 => ?_) (fun hc14 => ?_)
    ·
     refine qZ <| qJ <| qN <| qg <| qN ?_
     obtain ⟨y, hy⟩ : ∃ y, l2[i]? = some y := ⟨_, List.getElem?_eq_getElem (by omega)⟩
     have hyd : l2.getD i 0 = y := by rw [List.getD_eq_getElem?_getD, hy]; rfl
     refine qK <| qA rfl <| q9 (JD (j := i) rfl rfl rfl (by omega) (KX hy)) <| qE rfl <| qE rfl <| qm <| qA rfl <| qA rfl <| q9 (wX rfl) <| qA rfl <| qG (w5 rfl (xp ([(b59, .cells [.pointer (some ⟨p, 0, none⟩), rv, .int .i64 0].toArray 173 (0, 0))]) ([(p, .cells (zO n ma md b53 u).toArray 90 (0, 0))]) ([(ma, oa)]) (D) (KO b59 p ma n md b53 u rv oa _ hf D g hr (5, (i : Int)) y (ll i) (h3 i) (fun e => h30 i (by rw [hyd]; exact e)) (fun e => by have := h31 i (by omega) (by rw [hyd]; exact e); rw [hyd] at this; exact this)))) ?_
     rintro t88 _ ⟨rfl, oa6, ho6, rfl⟩
     refine qG (qj) ?_
     rintro t16 _ ⟨b16, rfl, rfl⟩
     refine qR (qo rfl rfl (by simp) (by simp [(h3 i).len]) (xY _)) ?_
     refine qF <| qK <| qA rfl <| qA rfl <| q9 (wX rfl) <| q9 (W0 rfl) <| qG (w5 rfl (xp ([(b59, .cells [.pointer (some ⟨p, 0, none⟩), rv, .int .i64 0].toArray 173 (0, 0))]) ([(p, .cells (zO n ma md b53 u).toArray 90 (0, 0))]) ([(ma, oa6)]) ([(b16, .cells (iV (ll i)).toArray 175 (0, 0))]) (Wi b59 p ma b16 0 32 32 n md b53 u rv oa6 _ ho6 (iV (ll i)) 175 (0, 0) (ll i) 2 i 0 (h3 i).len (by omega) (by omega) (by simp) (fun i y hy => by rw [Nat.mul_one, Nat.zero_add]; exact KX hy)))) ?_
     rintro t93 _ ⟨rfl, oa7, ho7, rfl⟩
     refine qT <| qe <| qJ <| qK <| q9 (w9 rfl rfl (by omega)) <| qA rfl <| qT <| w6 ⟨(i + 1, oa7), ?_⟩ ?_ ?_
     · (try dsimp only); exact ⟨by omega, by rw [Wd, hyd]; exact ho7⟩
     · (try dsimp only); omega
     · (try dsimp only); exact qX _
    ·
     refine wa <| qr <| qt <| qh <| qJ <| qN <| qO <| qA rfl <| q9 (qQ rfl) <| q9 (qB rfl) <| q9 (qI rfl rfl) <| q9 (zE rfl rfl) <| qF <| qM rfl (fun hc19 => ?_) (fun hc19 => ?_)
     · exact absurd rfl hc19
     ·
      refine qZ <| qJ <| qN ?_
      obtain rfl : i = 32 := by omega
      refine qK <| qA rfl <| qE rfl <| qE rfl <| qT <| zN (qX ([(p, .cells (zO n ma md b53 u).toArray 90 (0, 0))] :: [(ma, oa)] :: [(md, od)] :: [(b53, .map #[] 0)] :: C :: D :: G :: F)) <| zN (wZ (L' := ((p, .cells (zO (VR x a l1 l2 ll) ma md b53 u).toArray 90 (0, 0)) :: (ma, oa) :: (md, od) :: (b53, .map #[] 0) :: C) :: D :: G :: F) (by rw [hnv]; simp [zO, VR])) ?_
      refine qJ <| qy <| Qs (.inl rfl) rfl (qu rfl) (qu rfl) ?_
      exact ⟨p, _, rfl, ⟨ma, md, b53, oa, od, _, u, C, rfl, hf, hM.d, ka _ _, hM.g⟩, rfl⟩
end
end Go.Proofs.YtjikpomndbkfgaaGreatDoor
namespace Go.Sx
open Go
theorem ws {P : Program} {N : Nat} {E : Env} {x y : Operand} {t e sz : TypeId} {b o1 len cap : Nat} {k : IntKind} {i : Int} {j off : Nat} [hs : y7 P t e] [hz : TySize P e sz]
    (hx : opv E x = some (.slice (some ⟨b, o1, none⟩) len cap)) (hy : opv E y = some (.int k i)) (hi : i = (j : Int)) (hj : j < len) (ho : o1 + j * sz = off) : OpY P N E (.indexAddr t x y) (.pointer (some ⟨b, off, none⟩)) := fun o a w h1 h3 => by
  subst ho; subst hi
  rw [execOp, h1]
  simp [h3.eval hx, h3.eval hy, Instr.indexAt, asIntOf, qz hs.h, hj, hz.s, yh]
theorem kw {P : Program} {N : Nat} {w0 : World} {E : Env} {L L' : Res} {Q : Exit → Act → World → Prop} {ops : List Oper} {ls : List Bool} (hL : ∀ w, Own w0 L w → Own w0 L' w) (h : TrS P N w0 ops ls E L' Q) : TrS P N w0 ops ls E L Q :=
  ⟨fun a w ha hw => h.h a w ha (hL w hw)⟩
end Go.Sx
namespace Go.Proofs.YtjikpomndbkfgaaGreatDoor
open Go Go.Sx Go.Nd
set_option maxRecDepth 10000
section
variable {w0 : World} {L F : Res} {ba bl : Nat}
structure Blk where
  has : Bool
  at_ : Int
  fresh : Bool
  s : Sec
structure yF where
  at_ : Int
  stale : Bool
structure RS where
  num : Int
  ver : Int
  kind : Int
  size : Int
  time : Int
  all : Int → Blk
  leaves : Int → yF
  sg : yF
  db : yF
  self : yF
  gone : List Int
def Blk.zero : Blk := ⟨false, 0, false, Sec.zero⟩
def wz (b : Blk) : List Value := .bool b.has :: .int .i64 b.at_ :: .bool b.fresh :: wt b.s
theorem zh (b : Blk) : (wz b).length = 131 := by simp [wz]
def wy (p : yF) : List Value := [.int .i64 p.at_, .bool p.stale]
theorem zV (p : yF) : (wy p).length = 2 := rfl
theorem Kk (b : Blk) : (wz b).all (·.oneCell') = true := by simp [wz, Value.oneCell', wt, u8s]
def xX {β : Type} (n : Nat) (f : Int → β) : List β := (List.range n).map fun i : Nat => f i
theorem Qa {β : Type} {n : Nat} {f : Int → β} {i : Nat} (h : i < n) : (xX n f)[i]? = some (f i) := by simp [xX, h]
theorem tabL_len {β : Type} {n : Nat} {f : Int → β} : (xX n f).length = n := by simp [xX]
theorem zo {β : Type} {n : Nat} {f : Int → β} {i : Nat} {x : β} : (xX n f).set i x = xX n (upd f (i : Int) x) := by
  apply List.ext_getElem?
  intro j
  rw [List.getElem?_set]
  by_cases hj : j < n
  · have e1 := Qa (f := f) hj
    have e2 := Qa (f := upd f (i : Int) x) hj
    rw [e1, e2]
    split
    · rename_i e; subst e; rw [zQ, tabL_len, if_pos hj]
    · rename_i e; rw [wb _ _ (by omega)]
  · have h1 : ∀ g : Int → β, (xX n g)[j]? = none := fun g => List.getElem?_eq_none (by simp [xX]; omega)
    rw [h1, h1]
    split <;> simp [xX]; omega
def z7 (f : Int → Blk) : List Blk := xX 1064 f
def wN (f : Int → yF) : List yF := xX 32 f
theorem yI {f : Int → Blk} {i : Nat} (h : i < 1064) : (z7 f)[i]? = some (f i) := Qa h
theorem zF {f : Int → yF} {i : Nat} (h : i < 32) : (wN f)[i]? = some (f i) := Qa h
def kV (W : RS) (ba bl : Nat) (ug : Value) : List Value := [.int .u32 W.num, .int .u32 W.ver, .int .i64 W.kind, .int .i64 W.size, .int .u32 W.time, .slice (some ⟨ba, 0, none⟩) 1064 1064, .slice (some ⟨bl, 0, none⟩) 32 32, .int .i64 W.sg.at_, .bool W.sg.stale, .int .i64 W.db.at_, .bool W.db.stale, .int .i64 W.self.at_, .bool W.self.stale, ug]
def RefC (ba bl : Nat) (W : RS) (v : List Value) (C : qV) : Prop := ∃ ug Cg, v = kV W ba bl ug ∧ SlC 3 1 ug W.gone.length (iV W.gone) Cg ∧
  C = (ba, .cells ((z7 W.all).flatMap wz ++ []).toArray 125 (0, 0)) :: (bl, .cells ((wN W.leaves).flatMap wy ++ []).toArray 38 (0, 0)) :: Cg
def Jp (W : RS) (ba bl : Nat) (Cg : qV) (F : Res) : Res := [(ba, .cells ((z7 W.all).flatMap wz ++ []).toArray 125 (0, 0))] :: [(bl, .cells ((wN W.leaves).flatMap wy ++ []).toArray 38 (0, 0))] :: Cg :: F
section
variable {W : RS} {v : List Value} {C : qV} {f : FuncId}
theorem ref_read {args : List Value → Array Value} {Rv : Value → Prop} (hw : RefC ba bl W v C)
    (h : ∀ ug Cg, SlC 3 1 ug W.gone.length (iV W.gone) Cg → FnT Tryz.prog w0 f (args (kV W ba bl ug)) (Jp W ba bl Cg F) (fun v L' => Rv v ∧ L' = Jp W ba bl Cg F)) : FnT Tryz.prog w0 f (args v) (C :: F) (fun v L' => Rv v ∧ L' = C :: F) := by
  obtain ⟨ug, Cg, rfl, hs, rfl⟩ := hw
  exact Qu (h ug Cg hs) (by simp [Jp])
theorem ref_lays {args : List Value → Array Value} {G : Value → qV → Prop} (hw : RefC ba bl W v C)
    (h : ∀ ug Cg, SlC 3 1 ug W.gone.length (iV W.gone) Cg → FnT Tryz.prog w0 f (args (kV W ba bl ug)) (Jp W ba bl Cg F) (fun v L' => ∃ C', G v C' ∧ L' = C' :: Jp W ba bl Cg F)) : FnT Tryz.prog w0 f (args v) (C :: F) (fun v L' => ∃ C', G v C' ∧ L' = C' :: C :: F) := by
  obtain ⟨ug, Cg, rfl, hs, rfl⟩ := hw
  exact ((h ug Cg hs).pre (wZ (by simp [Jp]))).post fun v L' ⟨C', h1, h2⟩ => ⟨_, ⟨C', h1, rfl⟩, by subst h2; exact wZ (by simp [Jp])⟩
end
theorem YB {α : Type} (enc : α → List Value) (sz n : Nat) (x : α) (h : (enc x).length = sz) (hs : 0 < sz) :
    ((List.range (n * sz)).map fun i => ((enc x).toArray)[i % sz]!) = (List.replicate n x).flatMap enc := by
  induction n with
  | zero => simp
  | succ n ih =>
    rw [Nat.succ_mul, List.range_add, List.map_append, ih, List.replicate_succ', List.flatMap_append]
    congr 1
    rw [List.map_map]
    simp only [List.flatMap_cons, List.flatMap_nil, List.append_nil]
    apply List.ext_getElem
    · simp [h]
    · intro i h1 h2
      have hi : i < sz := by simpa using h1
      simp only [List.getElem_map, List.getElem_range, Function.comp]
      rw [show (n * sz + i) % sz = i from by rw [Nat.mul_comm, Nat.mul_add_mod, Nat.mod_eq_of_lt hi]]
      simp [h, hi]
def YG (W : RS) : List Int := ((List.range 1064).map (fun i : Nat => (i : Int))).filter (fun i => (W.all i).has)
theorem filter_take {xs : List Int} {pr : Int → Bool} {i : Nat} {q : Int} (hq : xs[i]? = some q) : (xs.take (i + 1)).filter pr = (xs.take i).filter pr ++ (if pr q then [q] else []) := by
  rw [List.take_add_one, hq, List.filter_append]
  simp only [Option.toList_some, List.filter_cons, List.filter_nil]
def zu (n : Nat) : List Int := (List.range n).map (fun i : Nat => (i : Int))
theorem jP {n i : Nat} (h : i < n) : (zu n)[i]? = some (i : Int) := by simp [zu, h]
theorem xE (n : Nat) : (zu n).length = n := by simp [zu]
instance (priority := high) : TyZero Tryz.prog 125 (.agg (wz Blk.zero).toArray) := .of (by kernel_rfl)
theorem rep_allL : z7 (fun _ => Blk.zero) = List.replicate 1064 Blk.zero := by
  unfold z7 xX
  rw [List.map_const']; simp
theorem rep_leafL : wN (fun _ => ⟨0, false⟩) = List.replicate 32 ⟨0, false⟩ := by
  unfold wN xX
  rw [List.map_const']; simp
def WZ (num ver kind : Int) : RS := ⟨num, ver, kind, 0, 0, fun _ => Blk.zero, fun _ => ⟨0, false⟩, ⟨0, false⟩, ⟨0, false⟩, ⟨0, true⟩, []⟩
theorem rnew_ok (num ver kind : Int) : FnT Tryz.prog w0 26 #[.int .u32 num, .int .u32 ver, .int .i64 kind] F (fun v L' => ∃ ba bl l C, v = .agg l.toArray ∧ RefC ba bl (WZ num ver kind) l C ∧ L' = C :: F) := by
  refine qi (E0 := [(0, _), (1, _), (2, _)]) (N := 14) Tryz.func26 rfl rfl rfl rfl ?_
  refine qO <| qG (qj) ?_
  rintro t6 _ ⟨b6, rfl, rfl⟩
  refine qF <| qN <| wT wB <| wD [(7, .pure _), (8, .pure _), (9, .pure _), (10, .act ([]) (fun v C => ∃ b, v = .slice (some ⟨b, 0, none⟩) 1064 1064 ∧ C = [(b, .cells ((List.replicate 1064 Blk.zero).flatMap wz ++ []).toArray 125 (0, 0))])), (11, .act ([]) (fun v C => ∃ b, v = .slice (some ⟨b, 0, none⟩) 32 32 ∧ C = [(b, .cells ((List.replicate 32 (⟨0, false⟩ : yF)).flatMap wy ++ []).toArray 38 (0, 0))])), (12, .pure _)] (by kernel_rfl) rfl rfl rfl (Qe [[], []] rfl) (qC rfl (fun X => qP rfl) <| qC rfl (fun X => qP rfl) <| qC rfl (fun X => qP rfl) <| Qt rfl (fun X => OpT.mono (QB (xj (n := 1064) (r := (List.replicate 1064 Blk.zero).flatMap wz ++ []) rfl rfl (by decide) (by decide) (by rw [List.append_nil]; exact YB wz 131 1064 Blk.zero (zh _) (by omega))) (fun _ _ h => h) Qd) (fun v L h => by obtain ⟨b, h1, h2⟩ := h; exact ⟨_, ⟨b, h1, rfl⟩, h2⟩)) <| Qt rfl (fun X => OpT.mono (QB (xj (n := 32) (r := (List.replicate 32 (⟨0, false⟩ : yF)).flatMap wy ++ []) rfl rfl (by decide) (by decide) (by rw [List.append_nil]; exact YB wy 2 32 ⟨0, false⟩ rfl (by omega))) (fun _ _ h => h) Qd) (fun v L h => by obtain ⟨b, h1, h2⟩ := h; exact ⟨_, ⟨b, h1, rfl⟩, h2⟩)) <| qC rfl (fun X => wX rfl) <| ParH.nil rfl) ?_
  rintro t10 C1 ⟨ba, rfl, rfl⟩
  rintro t11 C2 ⟨bl, rfl, rfl⟩
  dsimp only [ze, List.drop, List.length]
  refine wE (by kernel_rfl) (wX rfl) ?_
  refine kT (by kernel_rfl) (wc rfl rfl rfl rfl) ?_
  refine wI ?_
  rw [← rep_allL, ← rep_leafL]
  refine zN (L' := [(b6, .cells [.int .u32 num, .int .u32 ver, .int .i64 kind, .int .i64 0, .int .u32 0, .slice (some ⟨ba, 0, none⟩) 1064 1064, .slice (some ⟨bl, 0, none⟩) 32 32, .int .i64 0, .bool false, .int .i64 0, .bool false, .int .i64 0, .bool true, .slice none 0 0].toArray 41 (0, 0))] :: ((ba, .cells ((z7 (fun _ => Blk.zero)).flatMap wz ++ []).toArray 125 (0, 0)) :: (bl, .cells ((wN (fun _ => ⟨0, false⟩)).flatMap wy ++ []).toArray 38 (0, 0)) :: []) :: F) (yj (by intro f; simp only [List.flatten_cons, List.flatten_nil, List.append_nil, List.countP_append, List.countP_cons, List.countP_nil]; omega)) ?_
  refine qJ <| qy <| wC (((ba, .cells ((z7 (fun _ => Blk.zero)).flatMap wz ++ []).toArray 125 (0, 0)) :: (bl, .cells ((wN (fun _ => ⟨0, false⟩)).flatMap wy ++ []).toArray 38 (0, 0)) :: []) :: F) (.inl rfl) rfl (zU rfl) ?_
  exact ⟨ba, bl, _, _, rfl, ⟨.slice none 0 0, [], rfl, SlC.nil _ _, rfl⟩, rfl⟩
def ZL (W : RS) (lv lf : Int) (i : Int) : Bool := (W.all i).has && (decide ((wG i).1 = lv) && (decide ((wG i).2.1 = lf) || decide (lf < 0)))
def yE (W : RS) (lv lf : Int) : Bool := (zu 1064).any (ZL W lv lf)
theorem jO (W : RS) (v : List Value) (C : qV) (hw : RefC ba bl W v C) (lv lf : Int) :
    FnT Tryz.prog w0 66 #[.agg v.toArray, .int .i64 lv, .int .i64 lf] (C :: F) (fun v L' => v = .bool (yE W lv lf) ∧ L' = C :: F) := by
  refine ref_read (args := fun v => #[.agg v.toArray, .int .i64 lv, .int .i64 lf]) (Rv := fun v => v = .bool (yE W lv lf)) hw ?_
  intro ug Cg hs
  unfold Jp kV
  refine qi (E0 := [(0, _), (1, _), (2, _)]) (N := 41) Tryz.func66 rfl rfl rfl rfl ?_
  refine qO <| qG (wq rfl) ?_
  rintro t3 _ ⟨b3, rfl, rfl⟩
  refine qE rfl <| qF <| qN <| qO <| qE rfl <| qF <| qg <| wS (Γ := {pΓ : (Nat) // (fun (i : Nat) => i ≤ 1064 ∧ ((zu 1064).take i).any (ZL W lv lf) = false) pΓ}) (fun g => (fun (i : Nat) => [(1, .int .i64 lv), (2, .int .i64 lf), (3, .pointer (some ⟨b3, 0, none⟩)), (7, .int .i64 i)]) g.1) (fun g => (fun (i : Nat) => [(b3, .cells [.int .u32 W.num, .int .u32 W.ver, .int .i64 W.kind, .int .i64 W.size, .int .u32 W.time, .slice (some ⟨ba, 0, none⟩) 1064 1064, .slice (some ⟨bl, 0, none⟩) 32 32, .int .i64 W.sg.at_, .bool W.sg.stale, .int .i64 W.db.at_, .bool W.db.stale, .int .i64 W.self.at_, .bool W.self.stale, ug].toArray 41 (0, 0))] :: [(ba, .cells ((z7 W.all).flatMap wz ++ []).toArray 125 (0, 0))] :: [(bl, .cells ((wN W.leaves).flatMap wy ++ []).toArray 38 (0, 0))] :: Cg :: F) g.1) (fun g => (fun (i : Nat) => 1064 - i) g.1) ⟨0, by dsimp only; exact ⟨by omega, rfl⟩⟩ (qX _) ?_
  rintro ⟨i, hloop⟩
  replace hloop : i ≤ 1064 ∧ ((zu 1064).take i).any (ZL W lv lf) = false := hloop
  obtain ⟨hi, hn⟩ := hloop
  show Tr _ _ _ ([(1, .int .i64 lv), (2, .int .i64 lf), (3, .pointer (some ⟨b3, 0, none⟩)), (7, .int .i64 i)]) ([(b3, .cells [.int .u32 W.num, .int .u32 W.ver, .int .i64 W.kind, .int .i64 W.size, .int .u32 W.time, .slice (some ⟨ba, 0, none⟩) 1064 1064, .slice (some ⟨bl, 0, none⟩) 32 32, .int .i64 W.sg.at_, .bool W.sg.stale, .int .i64 W.db.at_, .bool W.db.stale, .int .i64 W.self.at_, .bool W.self.stale, ug].toArray 41 (0, 0))] :: [(ba, .cells ((z7 W.all).flatMap wz ++ []).toArray 125 (0, 0))] :: [(bl, .cells ((wN W.leaves).flatMap wy ++ []).toArray 38 (0, 0))] :: Cg :: F) _ _
  refine qN <| qO <| qA rfl <| q9 (wJ rfl rfl) <| qF <| qM rfl (fun hc2 => ?_) (fun hc2 => ?_)
  ·
   refine qZ <| qJ <| qN <| qg <| qO <| qA rfl <| q9 (wM rfl (KB i (by omega))) <| qA rfl <| q9 (qf rfl rfl) <| q9 (qf rfl rfl) <| qG (qj) ?_
   rintro t8 _ ⟨b8, rfl, rfl⟩
   refine qR (wc (vs := [.int .i64 (wG i).1, .int .i64 (wG i).2.1, .int .i64 (wG i).2.2]) rfl rfl rfl rfl) <| qE rfl <| qF <| zY (Γ := {pΓ : (Bool) // (fun (b : Bool) => b = ZL W lv lf i) pΓ}) (fun g => (fun (b : Bool) => [(1, .int .i64 lv), (2, .int .i64 lf), (3, .pointer (some ⟨b3, 0, none⟩)), (7, .int .i64 i), (40, .bool b)]) g.1) (fun g => (fun (b : Bool) => [(b3, .cells [.int .u32 W.num, .int .u32 W.ver, .int .i64 W.kind, .int .i64 W.size, .int .u32 W.time, .slice (some ⟨ba, 0, none⟩) 1064 1064, .slice (some ⟨bl, 0, none⟩) 32 32, .int .i64 W.sg.at_, .bool W.sg.stale, .int .i64 W.db.at_, .bool W.db.stale, .int .i64 W.self.at_, .bool W.self.stale, ug].toArray 41 (0, 0))] :: [(ba, .cells ((z7 W.all).flatMap wz ++ []).toArray 125 (0, 0))] :: [(bl, .cells ((wN W.leaves).flatMap wy ++ []).toArray 38 (0, 0))] :: Cg :: F) g.1) ?_ ?_
   ·
    refine qK <| q9 (qB rfl) <| q9 (qI rfl rfl) <| qA rfl <| q9 (qx (j := i) (off := i * 131) rfl rfl rfl (by omega) (by simp)) ?_
    refine q9 (wA rfl) <| q9 (za (j := i) (k := 0) zh rfl (yI (by omega)) rfl rfl) <| qA rfl <| zy (s := 25) rfl (fun hg5_6 => ?_) (fun hg5_6 => ?_)
    ·
     refine qD rfl rfl (qB rfl) <| qD rfl rfl (qI rfl rfl) <| qD rfl rfl (qP rfl) <| qD rfl rfl (wn rfl rfl) <| q9 (qq rfl rfl) <| qA rfl <| qY (s := 31) rfl (fun hg5_12 => ?_) (fun hg5_12 => ?_)
     ·
      refine qD rfl rfl (qB rfl) <| qD rfl rfl (qI rfl rfl) <| qD rfl rfl (qP rfl) <| qD rfl rfl (wn rfl rfl) <| qD rfl rfl (qP rfl) <| qY (s := 36) rfl (fun hg5_17 => ?_) (fun hg5_17 => ?_)
      ·
       refine qL rfl rfl rfl <| qL rfl rfl rfl <| qD rfl rfl (qq rfl rfl) <| q9 (qq rfl rfl) <| qT <| qW ⟨_, ?_⟩ ?_
       · (try dsimp only); unfold ZL; simp only [*, Bool.true_and, Bool.false_and, decide_true, decide_false, Bool.true_or, Bool.false_or] <;> rfl
       · (try dsimp only); exact qX _
      ·
       refine qD rfl rfl (qP rfl) <| qD rfl rfl (wJ rfl rfl) <| qD rfl rfl (qU rfl rfl) <| q9 (qq rfl rfl) <| qT <| qW ⟨_, ?_⟩ ?_
       · (try dsimp only); unfold ZL; simp only [*, Bool.true_and, Bool.false_and, decide_true, decide_false, Bool.true_or, Bool.false_or] <;> rfl
       · (try dsimp only); exact qX _
     ·
      refine qL rfl rfl rfl <| qL rfl rfl rfl <| qL rfl rfl rfl <| qL rfl rfl rfl <| qL rfl rfl rfl <| kx rfl rfl <| kx rfl rfl <| qL rfl rfl rfl <| q9 (qU rfl rfl) <| qT <| qW ⟨_, ?_⟩ ?_
      · (try dsimp only); unfold ZL; simp only [*, Bool.true_and, Bool.false_and, decide_true, decide_false, Bool.true_or, Bool.false_or] <;> rfl
      · (try dsimp only); exact qX _
    ·
     refine qL rfl rfl rfl <| qL rfl rfl rfl <| qL rfl rfl rfl <| qL rfl rfl rfl <| q9 (qU rfl rfl) <| qA rfl <| qL rfl rfl rfl <| qL rfl rfl rfl <| qL rfl rfl rfl <| qL rfl rfl rfl <| qL rfl rfl rfl <| kx rfl rfl <| kx rfl rfl <| qL rfl rfl rfl <| q9 (qU rfl rfl) <| qT <| qW ⟨_, ?_⟩ ?_
     · (try dsimp only); unfold ZL; simp only [*, Bool.true_and, Bool.false_and, decide_true, decide_false, Bool.true_or, Bool.false_or] <;> rfl
     · (try dsimp only); exact qX _
   rintro ⟨b, hcut⟩
   replace hcut : b = ZL W lv lf i := hcut
   have hb := hcut
   show Tr _ _ _ ([(1, .int .i64 lv), (2, .int .i64 lf), (3, .pointer (some ⟨b3, 0, none⟩)), (7, .int .i64 i), (40, .bool b)]) ([(b3, .cells [.int .u32 W.num, .int .u32 W.ver, .int .i64 W.kind, .int .i64 W.size, .int .u32 W.time, .slice (some ⟨ba, 0, none⟩) 1064 1064, .slice (some ⟨bl, 0, none⟩) 32 32, .int .i64 W.sg.at_, .bool W.sg.stale, .int .i64 W.db.at_, .bool W.db.stale, .int .i64 W.self.at_, .bool W.self.stale, ug].toArray 41 (0, 0))] :: [(ba, .cells ((z7 W.all).flatMap wz ++ []).toArray 125 (0, 0))] :: [(bl, .cells ((wN W.leaves).flatMap wy ++ []).toArray 38 (0, 0))] :: Cg :: F) _ _
   refine yB rfl (fun hc4 => ?_) (fun hc4 => ?_)
   ·
    refine qO <| qE rfl <| qF <| qy <| wH <| qv <| k5 <| wH <| qv <| wC ([(ba, .cells ((z7 W.all).flatMap wz ++ []).toArray 125 (0, 0))] :: [(bl, .cells ((wN W.leaves).flatMap wy ++ []).toArray 38 (0, 0))] :: Cg :: F) (.inl rfl) rfl (qu rfl) ?_
    exact ⟨by unfold yE; rw [List.any_eq_true.2 ⟨(i : Int), List.mem_of_getElem? (jP (by omega)), by rw [← hb]; exact hc4⟩], rfl⟩
   ·
    refine qZ <| qe <| qJ <| qK <| qA rfl <| q9 (w9 rfl rfl (by omega)) <| qE rfl <| qT <| w6 ⟨i + 1, ?_⟩ ?_ ?_
    ·
     try dsimp only
     refine ⟨by omega, ?_⟩
     rw [List.take_add_one, jP (by omega), List.any_append, hn]
     simp [← hb, hc4]
    · (try dsimp only); omega
    · (try dsimp only); exact qX _
  ·
   refine wa <| qr <| qt <| qh <| qJ <| qO <| qE rfl <| qF <| qy <| wC ([(ba, .cells ((z7 W.all).flatMap wz ++ []).toArray 125 (0, 0))] :: [(bl, .cells ((wN W.leaves).flatMap wy ++ []).toArray 38 (0, 0))] :: Cg :: F) (.inl rfl) rfl (qu rfl) ?_
   rw [List.take_of_length_le (by rw [xE]; omega)] at hn
   exact ⟨by unfold yE; rw [hn], rfl⟩
def Kh (W : RS) (i : Int) : Int := (W.all (i / 128)).s.l.getD (i % 128).toNat 0
def Z8 (W : RS) (a m : Int) : List Int := (List.range (min (W.size - a) m).toNat).map fun j : Nat => Kh W (a + j)
theorem blk_byte (b : Blk) {k : Nat} (h : k < 128) : wY (wz b) (3 + k) = some (.int .u8 (b.s.l.getD k 0)) := by
  rw [zB, show 3 + k = k + 1 + 1 + 1 from by omega]
  show (wt b.s)[k]? = _
  have hl := b.s.len
  simp [wt, u8s, List.getD_eq_getElem?_getD, List.getElem?_eq_getElem (show k < b.s.l.length by omega)]
theorem rread_ok (W : RS) (v : List Value) (C : qV) (hw : RefC ba bl W v C) (a m : Int) (ha : -9223372036854775808 ≤ a ∧ a ≤ 9223372036854775807) (hsz : W.size ≤ 136192) :
    FnT Tryz.prog w0 29 #[.agg v.toArray, .int .i64 a, .int .i64 m] (C :: F) (fun v L' => ∃ C', (if a < 0 ∨ m < 0 then v = .tuple #[.slice none 0 0, .int .i64 1] ∧ C' = [] else ∃ u, v = .tuple #[u, .int .i64 0] ∧ SlC 5 1 u (Z8 W a m).length (u8s (Z8 W a m)) C') ∧ L' = C' :: C :: F) := by
  refine ref_lays (args := fun v => #[.agg v.toArray, .int .i64 a, .int .i64 m]) (G := fun v C' => (if a < 0 ∨ m < 0 then v = .tuple #[.slice none 0 0, .int .i64 1] ∧ C' = [] else ∃ u, v = .tuple #[u, .int .i64 0] ∧ SlC 5 1 u (Z8 W a m).length (u8s (Z8 W a m)) C')) hw ?_
  intro ug Cg hs
  unfold Jp kV
  refine qi (E0 := [(0, _), (1, _), (2, _)]) (N := 43) Tryz.func29 rfl rfl rfl rfl ?_
  refine qO <| qG (wq rfl) ?_
  rintro t3 _ ⟨b3, rfl, rfl⟩
  refine qE rfl <| qE rfl <| qF <| qN <| zY (Γ := {pΓ : (Bool) // (fun (b : Bool) => b = decide (a < 0 ∨ m < 0)) pΓ}) (fun g => (fun (b : Bool) => [(1, .int .i64 a), (2, .int .i64 m), (3, .pointer (some ⟨b3, 0, none⟩)), (15, .bool b)]) g.1) (fun g => (fun (b : Bool) => [(b3, .cells [.int .u32 W.num, .int .u32 W.ver, .int .i64 W.kind, .int .i64 W.size, .int .u32 W.time, .slice (some ⟨ba, 0, none⟩) 1064 1064, .slice (some ⟨bl, 0, none⟩) 32 32, .int .i64 W.sg.at_, .bool W.sg.stale, .int .i64 W.db.at_, .bool W.db.stale, .int .i64 W.self.at_, .bool W.self.stale, ug].toArray 41 (0, 0))] :: [(ba, .cells ((z7 W.all).flatMap wz ++ []).toArray 125 (0, 0))] :: [(bl, .cells ((wN W.leaves).flatMap wy ++ []).toArray 38 (0, 0))] :: Cg :: F) g.1) ?_ ?_
  ·
   refine qK <| qA rfl <| q9 (wJ rfl rfl) <| qA rfl <| qY (s := 12) rfl (fun hg1_2 => ?_) (fun hg1_2 => ?_)
   ·
    refine qL rfl rfl rfl <| qL rfl rfl rfl <| q9 (qq rfl rfl) <| qT <| qW ⟨_, ?_⟩ ?_
    · (try dsimp only); simp only [*, true_or, false_or, decide_true] <;> rfl
    · (try dsimp only); exact qX _
   ·
    refine qD rfl rfl (qP rfl) <| qD rfl rfl (wJ rfl rfl) <| q9 (qU rfl rfl) <| qT <| qW ⟨_, ?_⟩ ?_
    · (try dsimp only); simp only [*, true_or, false_or, decide_true] <;> rfl
    · (try dsimp only); exact qX _
  rintro ⟨b, hcut⟩
  replace hcut : b = decide (a < 0 ∨ m < 0) := hcut
  have hb := hcut
  show Tr _ _ _ ([(1, .int .i64 a), (2, .int .i64 m), (3, .pointer (some ⟨b3, 0, none⟩)), (15, .bool b)]) ([(b3, .cells [.int .u32 W.num, .int .u32 W.ver, .int .i64 W.kind, .int .i64 W.size, .int .u32 W.time, .slice (some ⟨ba, 0, none⟩) 1064 1064, .slice (some ⟨bl, 0, none⟩) 32 32, .int .i64 W.sg.at_, .bool W.sg.stale, .int .i64 W.db.at_, .bool W.db.stale, .int .i64 W.self.at_, .bool W.self.stale, ug].toArray 41 (0, 0))] :: [(ba, .cells ((z7 W.all).flatMap wz ++ []).toArray 125 (0, 0))] :: [(bl, .cells ((wN W.leaves).flatMap wy ++ []).toArray 38 (0, 0))] :: Cg :: F) _ _
  refine yB rfl (fun hc0 => ?_) (fun hc0 => ?_)
  ·
   refine qO <| qE rfl <| qE rfl <| qF <| qy <| qv <| wU ([] :: [(ba, .cells ((z7 W.all).flatMap wz ++ []).toArray 125 (0, 0))] :: [(bl, .cells ((wN W.leaves).flatMap wy ++ []).toArray 38 (0, 0))] :: Cg :: F) (.inl rfl) rfl (qu rfl) (qu rfl) ?_
   exact ⟨[], by rw [if_pos (of_decide_eq_true (hb ▸ hc0))]; exact ⟨rfl, rfl⟩, rfl⟩
  ·
   refine qZ <| qJ <| qN ?_
   have hnn : ¬ (a < 0 ∨ m < 0) := of_decide_eq_false (hb ▸ hc0)
   refine qK <| qE rfl <| qF <| qN <| qO <| qA rfl <| qE rfl <| qF <| qg <| wS (Γ := {pΓ : (Nat) × (Int) × (Value) × (qV) // (fun (i : Nat) (z : Int) (uo : Value) (Co : qV) => z = a + i ∧ (i = 0 ∨ (i : Int) ≤ W.size - a ∧ (i : Int) ≤ m) ∧ SlC 5 1 uo i (u8s ((List.range i).map fun j : Nat => Kh W (a + j))) Co) pΓ.1 pΓ.2.1 pΓ.2.2.1 pΓ.2.2.2}) (fun g => (fun (i : Nat) (z : Int) (uo : Value) (Co : qV) => [(2, .int .i64 m), (3, .pointer (some ⟨b3, 0, none⟩)), (8, uo), (9, .int .i64 z)]) g.1.1 g.1.2.1 g.1.2.2.1 g.1.2.2.2) (fun g => (fun (i : Nat) (z : Int) (uo : Value) (Co : qV) => Co :: [(b3, .cells [.int .u32 W.num, .int .u32 W.ver, .int .i64 W.kind, .int .i64 W.size, .int .u32 W.time, .slice (some ⟨ba, 0, none⟩) 1064 1064, .slice (some ⟨bl, 0, none⟩) 32 32, .int .i64 W.sg.at_, .bool W.sg.stale, .int .i64 W.db.at_, .bool W.db.stale, .int .i64 W.self.at_, .bool W.self.stale, ug].toArray 41 (0, 0))] :: [(ba, .cells ((z7 W.all).flatMap wz ++ []).toArray 125 (0, 0))] :: [(bl, .cells ((wN W.leaves).flatMap wy ++ []).toArray 38 (0, 0))] :: Cg :: F) g.1.1 g.1.2.1 g.1.2.2.1 g.1.2.2.2) (fun g => (fun (i : Nat) (z : Int) (uo : Value) (Co : qV) => (W.size - a).toNat - i) g.1.1 g.1.2.1 g.1.2.2.1 g.1.2.2.2) ⟨(0, a, .slice none 0 0, []), by dsimp only; exact ⟨by simp, .inl rfl, SlC.nil _ _⟩⟩ (qX _) ?_
   rintro ⟨⟨i, z, uo, Co⟩, hloop⟩
   replace hloop : z = a + i ∧ (i = 0 ∨ (i : Int) ≤ W.size - a ∧ (i : Int) ≤ m) ∧ SlC 5 1 uo i (u8s ((List.range i).map fun j : Nat => Kh W (a + j))) Co := hloop
   obtain ⟨hz, hi, hsl⟩ := hloop
   show Tr _ _ _ ([(2, .int .i64 m), (3, .pointer (some ⟨b3, 0, none⟩)), (8, uo), (9, .int .i64 z)]) (Co :: [(b3, .cells [.int .u32 W.num, .int .u32 W.ver, .int .i64 W.kind, .int .i64 W.size, .int .u32 W.time, .slice (some ⟨ba, 0, none⟩) 1064 1064, .slice (some ⟨bl, 0, none⟩) 32 32, .int .i64 W.sg.at_, .bool W.sg.stale, .int .i64 W.db.at_, .bool W.db.stale, .int .i64 W.self.at_, .bool W.self.stale, ug].toArray 41 (0, 0))] :: [(ba, .cells ((z7 W.all).flatMap wz ++ []).toArray 125 (0, 0))] :: [(bl, .cells ((wN W.leaves).flatMap wy ++ []).toArray 38 (0, 0))] :: Cg :: F) _ _
   refine qN <| qN ?_
   obtain ⟨pu, cu, hu⟩ := hsl.slice
   refine qK <| qA rfl <| q9 (qB rfl) <| q9 (qI rfl rfl) <| q9 (wJ rfl rfl) <| qA rfl <| qY (s := 21) rfl (fun hg5_4 => ?_) (fun hg5_4 => ?_)
   ·
    refine qD rfl rfl (qP rfl) <| qD rfl rfl (w8 (by rw [← hu]; rfl)) ?_
    refine qD rfl rfl (qP rfl) <| qD rfl rfl (wJ rfl rfl) <| q9 (qq rfl rfl) <| qF <| qM rfl (fun hc5 => ?_) (fun hc5 => ?_)
    ·
     refine qZ <| qJ <| qN <| qg ?_
     obtain ⟨q, hq⟩ : ∃ q : Nat, z / 128 = q := ⟨(z / 128).toNat, by omega⟩
     obtain ⟨r, hr⟩ : ∃ r : Nat, z % 128 = r := ⟨(z % 128).toNat, by omega⟩
     refine qK <| qA rfl <| q9 (qB rfl) <| q9 (qI rfl rfl) <| qA rfl <| q9 (jI rfl rfl (by omega)) <| qA rfl <| q9 (jz rfl rfl (by omega) (by omega)) <| q9 (qx (j := q) (off := q * 131) rfl rfl (by omega) (by omega) (by simp)) ?_
     refine q9 (wA rfl) <| q9 (wj (j := r) (off := q * 131 + 3 + r * 1) rfl rfl (by omega) (by omega) (by simp)) ?_
     refine q9 (za (j := q) (k := 3 + r) (v := .int .u8 (Kh W z)) zh rfl (yI (by omega)) (by omega) (by unfold Kh; rw [hq, hr, Int.toNat_natCast]; exact blk_byte _ (by omega)) (by rw [Nat.blt_eq]; omega)) ?_
     refine qG (wK rfl rfl rfl) ?_
     rintro t40 _ ⟨b40, rfl, rfl⟩
     refine qG (wg (m := 1) (sz := 1) rfl rfl hsl (wk (ys := u8s [Kh W z]) inferInstance rfl rfl) rfl Tryz.underlying23 rfl rfl (by omega)) ?_
     rintro t41 _ ⟨C', hs', rfl⟩
     refine qE rfl <| qT <| qe <| qJ <| qK <| qA rfl <| q9 (w9 rfl rfl (by omega)) <| qE rfl <| qT <| w6 ⟨(i + 1, _, t41, C'), ?_⟩ ?_ ?_
     · (try dsimp only); exact ⟨by omega, .inr (by omega), by rw [List.range_succ, List.map_append, yi]; simp only [List.map_cons, List.map_nil, ← hz]; exact hs'⟩
     · (try dsimp only); omega
     · (try dsimp only); exact qX _
    ·
     refine wa <| qr <| qt <| qh <| qJ <| qO <| qA rfl <| qE rfl <| qE rfl <| qF <| qy <| wU (Co :: [(ba, .cells ((z7 W.all).flatMap wz ++ []).toArray 125 (0, 0))] :: [(bl, .cells ((wN W.leaves).flatMap wy ++ []).toArray 38 (0, 0))] :: Cg :: F) (.inl rfl) rfl (qu rfl) (qu rfl) ?_
     have hil : i = (min (W.size - a) m).toNat := by omega
     exact ⟨Co, by rw [if_neg hnn]; exact ⟨uo, rfl, by unfold Z8; rw [← hil]; simpa using hsl⟩, rfl⟩
   ·
    refine qL rfl rfl rfl <| qL rfl rfl rfl <| qL rfl rfl rfl <| qL rfl rfl rfl <| q9 (qU rfl rfl) <| qF <| wV rfl <| wa <| qr <| qt <| qh <| qJ <| qO <| qA rfl <| qE rfl <| qE rfl <| qF <| qy <| wU (Co :: [(ba, .cells ((z7 W.all).flatMap wz ++ []).toArray 125 (0, 0))] :: [(bl, .cells ((wN W.leaves).flatMap wy ++ []).toArray 38 (0, 0))] :: Cg :: F) (.inl rfl) rfl (qu rfl) (qu rfl) ?_
    have hil : i = (min (W.size - a) m).toNat := by omega
    exact ⟨Co, by rw [if_neg hnn]; exact ⟨uo, rfl, by unfold Z8; rw [← hil]; simpa using hsl⟩, rfl⟩
def ky : List (Int × Int × Int) → List Int → (Int → Blk) → (Int → Blk)
  | [], _, f => f
  | q :: l, bs, f => ky l (bs.drop (q.2.2 - q.2.1).toNat) (upd f q.1 ⟨true, (f q.1).at_, true, yC (f q.1).s q.2.1.toNat (bs.take (q.2.2 - q.2.1).toNat)⟩)
def kU (W : RS) (a : Int) (bs : List Int) : Int × RS :=
  if kv a bs.length ≠ 0 ∨ bs.length = 0 then (kv a bs.length, W) else (0, { W with all := ky (ku a bs.length) bs W.all, size := max W.size (a + bs.length) })
theorem mem_flat_tail {c : qV} {L : Res} {x : VC} (h : x ∈ L.flatten) : x ∈ (c :: L).flatten := by simp only [List.flatten_cons]; exact List.mem_append_right _ h
theorem XU (s : Sec) {k : Nat} (h : k ≤ 128) : yC s k [] = s := by
  have hb : IsB ([] : List Int) := fun z hz => by cases hz
  rw [js (by simpa using h) hb]
  apply Zz
  simp [Sec.put, QS]
theorem VZ (b : Blk) (qa t : Nat) (m : List Int) (y : Int) (hm : m.length = t) (h : qa + t < 128) (hb : IsB (m ++ [y])) :
    (wz { b with s := yC b.s qa m }).set (3 + (qa + t) * 1) (.int .u8 y) = wz { b with s := yC b.s qa (m ++ [y]) } := by
  have hbm : IsB m := fun z hz => hb z (List.mem_append_left _ hz)
  have h1 : (yC b.s qa m).l = QS b.s.l qa m := by rw [js (by omega) hbm]; rfl
  have h2 : (yC b.s qa (m ++ [y])).l = QS b.s.l qa (m ++ [y]) := by rw [js (by simp; omega) hb]; rfl
  have key : (QS b.s.l qa m).set (qa + t) y = QS b.s.l qa (m ++ [y]) := by
    have hl := b.s.len
    unfold QS
    rw [List.append_assoc, List.set_append_right _ _ (by simp; omega), List.append_assoc]
    congr 1
    rw [List.length_take, Nat.min_eq_left (by omega), Nat.add_sub_cancel_left, List.set_append_right _ _ (by omega), List.append_assoc]
    congr 1
    rw [hm, Nat.sub_self, List.length_append, hm]
    rw [List.drop_eq_getElem_cons (show qa + t < b.s.l.length by omega)]
    rfl
  unfold wz
  rw [show 3 + (qa + t) * 1 = (qa + t) + 1 + 1 + 1 from by omega]
  simp only [List.set_cons_succ, wt]
  congr 3
  rw [h1, h2, ← key]
  simp [u8s, List.map_set]
abbrev node0V : List Value := [.int .u32 0, .int .u32 0, .int .i64 0, .int .i64 0, .int .u32 0, .slice none 0 0, .slice none 0 0, .int .i64 0, .bool false, .int .i64 0, .bool false, .int .i64 0, .bool false, .slice none 0 0]
theorem jm (W : RS) (v : List Value) (C : qV) (hw : RefC ba bl W v C) (a : Int) (q : Option Addr) (c : Nat) (bs : List Int) (ha : -9223372036854775808 ≤ a ∧ a ≤ 9223372036854775807) (hbs : IsB bs) (hlen : (bs.length : Int) ≤ 9223372036854775807)
    (hb : Reads w0 F (.slice q bs.length c) bs.length 1 (u8s bs)) :
    FnT Tryz.prog w0 27 #[.agg v.toArray, .int .i64 a, .slice q bs.length c] (C :: F) (fun v L' => ∃ l C', v = .tuple #[.agg l.toArray, .int .i64 (kU W a bs).1] ∧ RefC ba bl (kU W a bs).2 l C' ∧ L' = C' :: F) := by
  obtain ⟨ug, Cg, rfl, hs, rfl⟩ := hw
  obtain ⟨pg, cg, rfl⟩ := hs.slice
  refine FnT.pre (L' := [(ba, .cells ((z7 W.all).flatMap wz ++ []).toArray 125 (0, 0))] :: [(bl, .cells ((wN W.leaves).flatMap wy ++ []).toArray 38 (0, 0))] :: Cg :: F) ?_ (wZ (by simp))
  unfold kV
  refine qi (E0 := [(0, _), (1, _), (2, _)]) (N := 92) Tryz.func27 rfl rfl rfl rfl ?_
  refine qO <| qG (wq rfl) ?_
  rintro t3 _ ⟨b3, rfl, rfl⟩
  refine qG (qj) ?_
  rintro t6 _ ⟨b6, rfl, rfl⟩
  refine qE rfl <| qm <| qA rfl <| qA rfl <| q9 (w8 rfl) <| qG (w5 rfl (rcut_spec a bs.length ha (by omega))) ?_
  rintro t18 _ ⟨uc, Cc, rfl, rfl, hcu⟩
  refine qA rfl <| q9 (qf rfl rfl) <| q9 (qf rfl rfl) <| qE rfl <| qE rfl <| qF <| qN <| qO <| qA rfl <| q9 (zE rfl rfl) <| qA rfl <| qY (s := 23) rfl (fun hg2_2 => ?_) (fun hg2_2 => ?_)
  ·
   refine qL rfl rfl rfl <| qL rfl rfl rfl <| qL rfl rfl rfl <| q9 (qq rfl rfl) <| qF <| zM rfl <| qO <| q9 (wW rfl) <| qA rfl <| qR (wc rfl rfl rfl rfl) <| qE rfl <| qT <| zN (qX ([(b6, .cells [.int .u32 W.num, .int .u32 W.ver, .int .i64 W.kind, .int .i64 W.size, .int .u32 W.time, .slice (some ⟨ba, 0, none⟩) 1064 1064, .slice (some ⟨bl, 0, none⟩) 32 32, .int .i64 W.sg.at_, .bool W.sg.stale, .int .i64 W.db.at_, .bool W.db.stale, .int .i64 W.self.at_, .bool W.self.stale, .slice pg W.gone.length cg].toArray 41 (0, 0))] :: [(ba, .cells ((z7 W.all).flatMap wz ++ []).toArray 125 (0, 0))] :: [(bl, .cells ((wN W.leaves).flatMap wy ++ []).toArray 38 (0, 0))] :: Cg :: F)) <| zN (wZ (L' := [(b6, .cells [.int .u32 W.num, .int .u32 W.ver, .int .i64 W.kind, .int .i64 W.size, .int .u32 W.time, .slice (some ⟨ba, 0, none⟩) 1064 1064, .slice (some ⟨bl, 0, none⟩) 32 32, .int .i64 W.sg.at_, .bool W.sg.stale, .int .i64 W.db.at_, .bool W.db.stale, .int .i64 W.self.at_, .bool W.self.stale, .slice pg W.gone.length cg].toArray 41 (0, 0))] :: ((ba, .cells ((z7 W.all).flatMap wz ++ []).toArray 125 (0, 0)) :: (bl, .cells ((wN W.leaves).flatMap wy ++ []).toArray 38 (0, 0)) :: Cg) :: F) (by simp)) ?_
   refine qJ <| qy <| qv <| wU (((ba, .cells ((z7 W.all).flatMap wz ++ []).toArray 125 (0, 0)) :: (bl, .cells ((wN W.leaves).flatMap wy ++ []).toArray 38 (0, 0)) :: Cg) :: F) (.inl rfl) rfl (zU rfl) (qu rfl) ?_
   have hE : kv a bs.length ≠ 0 ∨ bs.length = 0 := by first | exact .inl hg2_2 | exact .inr (by omega)
   have hT : kU W a bs = (kv a bs.length, W) := by unfold kU; rw [if_pos hE]
   rw [hT]
   exact ⟨_, _, rfl, ⟨_, Cg, rfl, hs, rfl⟩, rfl⟩
  ·
   refine qD rfl rfl (qP rfl) <| qD rfl rfl (w8 rfl) <| qD rfl rfl (wn rfl rfl) <| q9 (qU rfl rfl) <| qF <| qM rfl (fun hc2 => ?_) (fun hc2 => ?_)
   ·
    refine qO <| q9 (wW rfl) <| qA rfl <| qR (wc rfl rfl rfl rfl) <| qE rfl <| qT <| zN (qX ([(b6, .cells [.int .u32 W.num, .int .u32 W.ver, .int .i64 W.kind, .int .i64 W.size, .int .u32 W.time, .slice (some ⟨ba, 0, none⟩) 1064 1064, .slice (some ⟨bl, 0, none⟩) 32 32, .int .i64 W.sg.at_, .bool W.sg.stale, .int .i64 W.db.at_, .bool W.db.stale, .int .i64 W.self.at_, .bool W.self.stale, .slice pg W.gone.length cg].toArray 41 (0, 0))] :: [(ba, .cells ((z7 W.all).flatMap wz ++ []).toArray 125 (0, 0))] :: [(bl, .cells ((wN W.leaves).flatMap wy ++ []).toArray 38 (0, 0))] :: Cg :: F)) <| zN (wZ (L' := [(b6, .cells [.int .u32 W.num, .int .u32 W.ver, .int .i64 W.kind, .int .i64 W.size, .int .u32 W.time, .slice (some ⟨ba, 0, none⟩) 1064 1064, .slice (some ⟨bl, 0, none⟩) 32 32, .int .i64 W.sg.at_, .bool W.sg.stale, .int .i64 W.db.at_, .bool W.db.stale, .int .i64 W.self.at_, .bool W.self.stale, .slice pg W.gone.length cg].toArray 41 (0, 0))] :: ((ba, .cells ((z7 W.all).flatMap wz ++ []).toArray 125 (0, 0)) :: (bl, .cells ((wN W.leaves).flatMap wy ++ []).toArray 38 (0, 0)) :: Cg) :: F) (by simp)) ?_
    refine qJ <| qy <| qv <| wU (((ba, .cells ((z7 W.all).flatMap wz ++ []).toArray 125 (0, 0)) :: (bl, .cells ((wN W.leaves).flatMap wy ++ []).toArray 38 (0, 0)) :: Cg) :: F) (.inl rfl) rfl (zU rfl) (qu rfl) ?_
    have hE : kv a bs.length ≠ 0 ∨ bs.length = 0 := by first | exact .inl hg2_2 | exact .inr (by omega)
    have hT : kU W a bs = (kv a bs.length, W) := by unfold kU; rw [if_pos hE]
    rw [hT]
    exact ⟨_, _, rfl, ⟨_, Cg, rfl, hs, rfl⟩, rfl⟩
   ·
    refine qZ <| qJ <| qO <| qE rfl <| qT ?_
    have hE : kv a bs.length = 0 := by simpa using hg2_2
    have hne : ¬ (kv a bs.length ≠ 0 ∨ bs.length = 0) := by simp only [hE, ne_eq, not_true, false_or]; omega
    rw [hE, if_pos rfl] at hcu
    have hb0 : 0 ≤ a ∧ a + bs.length ≤ 136192 := by unfold kv at hE; split at hE <;> first | (cases hE; done) | (split at hE <;> first | (cases hE; done) | omega)
    obtain ⟨l, hl⟩ : ∃ l, ku a bs.length = l := ⟨_, rfl⟩
    have hll := Kb a bs.length
    have hsum := Xl (a := a) (n := bs.length) (by omega)
    rw [hl] at hcu hll hsum
    rcases hcu with ⟨-, h0, -⟩ | ⟨bc, capc, spc, rfl, hcsc, rfl, hcapc, hncc⟩
    · rw [List.length_eq_zero_iff.1 h0] at hsum; simp [kE] at hsum; omega
    obtain ⟨q', c', hqe, hylen, hyr⟩ := hb.h
    cases hqe
    rcases hyr with h0 | ⟨bb, ob, cb, eb, fb, rfl, hmem, hbc⟩
    · omega
    refine qJ <| qN <| qO <| qE rfl <| qF <| qg <| wS (Γ := {pΓ : (Nat) × (Int → Blk) × (Nat) × (Int) // (fun (i : Nat) (f : Int → Blk) (k : Nat) (z : Int) => z = k ∧ i ≤ l.length ∧ k ≤ bs.length ∧ ky (l.drop i) (bs.drop k) f = ky l bs W.all ∧ kE (l.drop i) = bs.length - k) pΓ.1 pΓ.2.1 pΓ.2.2.1 pΓ.2.2.2}) (fun g => (fun (i : Nat) (f : Int → Blk) (k : Nat) (z : Int) => [(1, .int .i64 a), (2, .slice (some ⟨bb, ob, none⟩) bs.length c), (3, .pointer (some ⟨b3, 0, none⟩)), (6, .pointer (some ⟨b6, 0, none⟩)), (8, .slice (some ⟨bc, 0, none⟩) l.length capc), (10, .int .i64 z), (11, .int .i64 i)]) g.1.1 g.1.2.1 g.1.2.2.1 g.1.2.2.2) (fun g => (fun (i : Nat) (f : Int → Blk) (k : Nat) (z : Int) => [(bc, .cells (l.flatMap kD ++ spc).toArray 131 (0, 0))] :: [(b3, .cells [.int .u32 W.num, .int .u32 W.ver, .int .i64 W.kind, .int .i64 W.size, .int .u32 W.time, .slice (some ⟨ba, 0, none⟩) 1064 1064, .slice (some ⟨bl, 0, none⟩) 32 32, .int .i64 W.sg.at_, .bool W.sg.stale, .int .i64 W.db.at_, .bool W.db.stale, .int .i64 W.self.at_, .bool W.self.stale, .slice pg W.gone.length cg].toArray 41 (0, 0))] :: [(b6, .cells node0V.toArray 41 (0, 0))] :: [(ba, .cells ((z7 f).flatMap wz ++ []).toArray 125 (0, 0))] :: [(bl, .cells ((wN W.leaves).flatMap wy ++ []).toArray 38 (0, 0))] :: Cg :: F) g.1.1 g.1.2.1 g.1.2.2.1 g.1.2.2.2) (fun g => (fun (i : Nat) (f : Int → Blk) (k : Nat) (z : Int) => l.length - i) g.1.1 g.1.2.1 g.1.2.2.1 g.1.2.2.2) ⟨(0, W.all, 0, 0), by dsimp only; exact ⟨rfl, by omega, by omega, rfl, by simpa using hsum⟩⟩ (qX _) ?_
    rintro ⟨⟨i, f, k, z⟩, hloop⟩
    replace hloop : z = k ∧ i ≤ l.length ∧ k ≤ bs.length ∧ ky (l.drop i) (bs.drop k) f = ky l bs W.all ∧ kE (l.drop i) = bs.length - k := hloop
    obtain ⟨hz, hi, hk, hw, hps⟩ := hloop
    show Tr _ _ _ ([(1, .int .i64 a), (2, .slice (some ⟨bb, ob, none⟩) bs.length c), (3, .pointer (some ⟨b3, 0, none⟩)), (6, .pointer (some ⟨b6, 0, none⟩)), (8, .slice (some ⟨bc, 0, none⟩) l.length capc), (10, .int .i64 z), (11, .int .i64 i)]) ([(bc, .cells (l.flatMap kD ++ spc).toArray 131 (0, 0))] :: [(b3, .cells [.int .u32 W.num, .int .u32 W.ver, .int .i64 W.kind, .int .i64 W.size, .int .u32 W.time, .slice (some ⟨ba, 0, none⟩) 1064 1064, .slice (some ⟨bl, 0, none⟩) 32 32, .int .i64 W.sg.at_, .bool W.sg.stale, .int .i64 W.db.at_, .bool W.db.stale, .int .i64 W.self.at_, .bool W.self.stale, .slice pg W.gone.length cg].toArray 41 (0, 0))] :: [(b6, .cells node0V.toArray 41 (0, 0))] :: [(ba, .cells ((z7 f).flatMap wz ++ []).toArray 125 (0, 0))] :: [(bl, .cells ((wN W.leaves).flatMap wy ++ []).toArray 38 (0, 0))] :: Cg :: F) _ _
    refine qN <| qO <| qA rfl <| qA rfl <| q9 (w8 rfl) <| q9 (wJ rfl rfl) <| qF <| qM rfl (fun hc6 => ?_) (fun hc6 => ?_)
    ·
     refine qZ <| qJ <| qN <| qg <| qN ?_
     obtain ⟨w, hw1⟩ : ∃ w, l[i]? = some w := ⟨_, List.getElem?_eq_getElem (by omega)⟩
     have hrg := Qk (a := a) (n := bs.length) hb0.1 (hl ▸ List.mem_of_getElem? hw1)
     rw [kJ hw1] at hw hps
     simp only [kE] at hps
     have hpn := Xm (a := a) (n := bs.length) hb0.1 (l.drop (i + 1)) (fun z hz => hl ▸ List.mem_of_mem_drop hz)
     obtain ⟨Q, hQ⟩ : ∃ Q : Nat, w.1 = Q := ⟨w.1.toNat, by omega⟩
     obtain ⟨qa, hqa⟩ : ∃ qa : Nat, w.2.1 = qa := ⟨w.2.1.toNat, by omega⟩
     obtain ⟨qb, hqb⟩ : ∃ qb : Nat, w.2.2 = qb := ⟨w.2.2.toNat, by omega⟩
     rw [ky, hQ, hqa, hqb, show ((qb : Int) - qa).toNat = qb - qa from by omega, Int.toNat_natCast, List.drop_drop] at hw
     refine wT wB <| wD [(36, .pure _), (37, .pure _), (38, .pure _), (39, .pure _), (40, .pure _), (41, .pure _), (42, .pure _), (43, .pure _), (44, .pure _), (12, .act [] (V9 _ 125))] (by kernel_rfl) rfl rfl rfl (Qe [[]] rfl) (qC rfl (fun X => qB rfl) <| qC rfl (fun X => qI rfl rfl) <| qC rfl (fun X => qP rfl) <| qC rfl (fun X => qP rfl) <| qC rfl (fun X => qx (j := i) (off := i * 3) rfl rfl rfl (by omega) (by simp)) <| qC rfl (fun X => wA rfl) <| qC rfl (fun X => za (j := i) (k := 0) kC rfl hw1 rfl rfl) <| qC rfl (fun X => qx (j := Q) (off := Q * 131) rfl rfl hQ (by omega) (by simp)) <| qC rfl (fun X => zC (j := Q) zh rfl (yI (by omega)) rfl) <| Qt rfl (fun X => Za) <| ParH.nil rfl) ?_
     rintro _ _ ⟨b12, rfl, rfl⟩
     dsimp only [ze, List.drop, List.length]
     refine kT (by kernel_rfl) (qo rfl rfl (zh Blk.zero) (zh _) (Kk _)) ?_
     refine wI <| qJ <| qN <| qO <| qA rfl <| qA rfl <| q9 (qx (j := i) (off := i * 3) rfl rfl rfl (by omega) (by simp)) ?_
     refine q9 (wA rfl) <| q9 (za (j := i) (k := 1) (v := .int .i64 qa) kC rfl hw1 rfl (by rw [← hqa]; rfl)) ?_
     refine qE rfl <| qT ?_
     have e0 : wz (f Q) = wz { f Q with s := yC (f Q).s qa ((bs.drop k).take 0) } := by rw [List.take_zero, XU _ (by omega)]
     rw [e0]
     refine qJ <| qg <| wS (Γ := {pΓ : (Nat) × (Int) × (Int) // (fun (t : Nat) (z1 : Int) (z2 : Int) => t ≤ qb - qa ∧ z1 = k + t ∧ z2 = qa + t) pΓ.1 pΓ.2.1 pΓ.2.2}) (fun g => (fun (t : Nat) (z1 : Int) (z2 : Int) => [(1, .int .i64 a), (2, .slice (some ⟨bb, ob, none⟩) bs.length c), (3, .pointer (some ⟨b3, 0, none⟩)), (6, .pointer (some ⟨b6, 0, none⟩)), (8, .slice (some ⟨bc, 0, none⟩) l.length capc), (10, .int .i64 z1), (11, .int .i64 i), (12, .pointer (some ⟨b12, 0, none⟩)), (13, .int .i64 z2)]) g.1.1 g.1.2.1 g.1.2.2) (fun g => (fun (t : Nat) (z1 : Int) (z2 : Int) => [(b12, .cells (wz { f Q with s := yC (f Q).s qa ((bs.drop k).take t) }).toArray 125 (0, 0))] :: [(bc, .cells (l.flatMap kD ++ spc).toArray 131 (0, 0))] :: [(b3, .cells [.int .u32 W.num, .int .u32 W.ver, .int .i64 W.kind, .int .i64 W.size, .int .u32 W.time, .slice (some ⟨ba, 0, none⟩) 1064 1064, .slice (some ⟨bl, 0, none⟩) 32 32, .int .i64 W.sg.at_, .bool W.sg.stale, .int .i64 W.db.at_, .bool W.db.stale, .int .i64 W.self.at_, .bool W.self.stale, .slice pg W.gone.length cg].toArray 41 (0, 0))] :: [(b6, .cells node0V.toArray 41 (0, 0))] :: [(ba, .cells ((z7 f).flatMap wz ++ []).toArray 125 (0, 0))] :: [(bl, .cells ((wN W.leaves).flatMap wy ++ []).toArray 38 (0, 0))] :: Cg :: F) g.1.1 g.1.2.1 g.1.2.2) (fun g => (fun (t : Nat) (z1 : Int) (z2 : Int) => (qb - qa) - t) g.1.1 g.1.2.1 g.1.2.2) ⟨(0, z, qa), by dsimp only; exact ⟨by omega, by omega, by omega⟩⟩ (qX _) ?_
     rintro ⟨⟨t, z1, z2⟩, hloop⟩
     replace hloop : t ≤ qb - qa ∧ z1 = k + t ∧ z2 = qa + t := hloop
     obtain ⟨ht, hz1, hz2⟩ := hloop
     show Tr _ _ _ ([(1, .int .i64 a), (2, .slice (some ⟨bb, ob, none⟩) bs.length c), (3, .pointer (some ⟨b3, 0, none⟩)), (6, .pointer (some ⟨b6, 0, none⟩)), (8, .slice (some ⟨bc, 0, none⟩) l.length capc), (10, .int .i64 z1), (11, .int .i64 i), (12, .pointer (some ⟨b12, 0, none⟩)), (13, .int .i64 z2)]) ([(b12, .cells (wz { f Q with s := yC (f Q).s qa ((bs.drop k).take t) }).toArray 125 (0, 0))] :: [(bc, .cells (l.flatMap kD ++ spc).toArray 131 (0, 0))] :: [(b3, .cells [.int .u32 W.num, .int .u32 W.ver, .int .i64 W.kind, .int .i64 W.size, .int .u32 W.time, .slice (some ⟨ba, 0, none⟩) 1064 1064, .slice (some ⟨bl, 0, none⟩) 32 32, .int .i64 W.sg.at_, .bool W.sg.stale, .int .i64 W.db.at_, .bool W.db.stale, .int .i64 W.self.at_, .bool W.self.stale, .slice pg W.gone.length cg].toArray 41 (0, 0))] :: [(b6, .cells node0V.toArray 41 (0, 0))] :: [(ba, .cells ((z7 f).flatMap wz ++ []).toArray 125 (0, 0))] :: [(bl, .cells ((wN W.leaves).flatMap wy ++ []).toArray 38 (0, 0))] :: Cg :: F) _ _
     refine qN <| qO <| qA rfl <| qA rfl <| qA rfl <| q9 (qx (j := i) (off := i * 3) rfl rfl rfl (by omega) (by simp)) ?_
     refine q9 (wA rfl) <| q9 (za (j := i) (k := 2) (v := .int .i64 qb) kC rfl hw1 (by simp) (by rw [← hqb]; rfl)) ?_
     refine q9 (wJ rfl rfl) <| qF <| qM rfl (fun hc10 => ?_) (fun hc10 => ?_)
     ·
      refine qZ <| qJ <| qN <| qg <| qN ?_
      obtain ⟨y, hy⟩ : ∃ y, bs[k + t]? = some y := ⟨_, List.getElem?_eq_getElem (by omega)⟩
      have hcy : cb[ob + (k + t) * 1]? = some (.int .u8 y) := by
        have h1 : ((cb.toList.drop ob).take (bs.length * 1))[k + t]? = some (.int .u8 y) := by rw [hbc]; simp [u8s, hy]
        rw [List.getElem?_take, if_pos (by omega), List.getElem?_drop] at h1
        rw [← Array.getElem?_toList, Nat.mul_one]; exact h1
      have hm0 : IsB ((bs.drop k).take t ++ [y]) := QR (fun z hz => hbs z (List.mem_of_mem_drop (List.mem_of_mem_take hz))) (fun z hz => by rw [List.mem_singleton.1 hz]; exact hbs y (List.mem_of_getElem? hy))
      refine qK <| qA rfl <| qA rfl <| qA rfl <| q9 (qx (o1 := ob) (j := k + t) (off := ob + (k + t) * 1) rfl rfl (by omega) (by omega) rfl) <| q9 (YV (c := cb) (e := eb) (fr := fb) (v := .int .u8 y) rfl (by repeat (first | exact hmem | apply mem_flat_tail)) hcy) ?_
      refine q9 (qB rfl) <| q9 (wj (j := qa + t) (off := 3 + (qa + t) * 1) rfl rfl (by omega) (by omega) (by simp)) ?_
      refine qR (yM rfl rfl (by rw [zh]; omega) rfl) ?_
      refine qF <| qK <| qA rfl <| q9 (w9 rfl rfl (by omega)) <| qE rfl <| qT <| qe <| qJ <| qK <| qA rfl <| q9 (w9 rfl rfl (by omega)) <| qE rfl <| qT <| w6 ⟨(t + 1, _, _), ?_⟩ ?_ ?_
      · (try dsimp only); exact ⟨by omega, by omega, by omega⟩
      · (try dsimp only); omega
      · (try dsimp only); exact (by rw [show (bs.drop k).take (t + 1) = (bs.drop k).take t ++ [y] from by rw [List.take_add_one, List.getElem?_drop, hy]; rfl]; rw [← VZ (f Q) qa t _ y (by simp; omega) (by omega) hm0]; exact qX _)
     ·
      refine wa <| qr <| qt <| qh <| qJ <| qN ?_
      have htl : t = qb - qa := by omega
      subst htl
      obtain ⟨nb, hnb⟩ : ∃ nb : Blk, nb = ⟨true, (f Q).at_, true, yC (f Q).s qa ((bs.drop k).take (qb - qa))⟩ := ⟨_, rfl⟩
      refine qK <| q9 (qB rfl) <| qR (yM rfl rfl (by rw [zh]; omega) rfl) ?_
      refine qm <| q9 (qB rfl) <| qR (yM rfl rfl (by rw [List.length_set, zh]; omega) rfl) ?_
      refine qT <| zN (L' := [(b12, .cells (wz nb).toArray 125 (0, 0))] :: [(bc, .cells (l.flatMap kD ++ spc).toArray 131 (0, 0))] :: [(b3, .cells [.int .u32 W.num, .int .u32 W.ver, .int .i64 W.kind, .int .i64 W.size, .int .u32 W.time, .slice (some ⟨ba, 0, none⟩) 1064 1064, .slice (some ⟨bl, 0, none⟩) 32 32, .int .i64 W.sg.at_, .bool W.sg.stale, .int .i64 W.db.at_, .bool W.db.stale, .int .i64 W.self.at_, .bool W.self.stale, .slice pg W.gone.length cg].toArray 41 (0, 0))] :: [(b6, .cells node0V.toArray 41 (0, 0))] :: [(ba, .cells ((z7 f).flatMap wz ++ []).toArray 125 (0, 0))] :: [(bl, .cells ((wN W.leaves).flatMap wy ++ []).toArray 38 (0, 0))] :: Cg :: F) (yW (by rw [hnb]; rfl)) ?_
      refine qJ <| wT wB <| wD [(70, .pure _), (71, .pure _), (72, .pure _), (73, .pure _), (74, .pure _), (75, .pure _), (76, .pure _), (77, .pure _)] (by kernel_rfl) rfl rfl rfl wm (qC rfl (fun X => qB rfl) <| qC rfl (fun X => qI rfl rfl) <| qC rfl (fun X => qP rfl) <| qC rfl (fun X => qP rfl) <| qC rfl (fun X => qx (j := i) (off := i * 3) rfl rfl rfl (by omega) (by simp)) <| qC rfl (fun X => wA rfl) <| qC rfl (fun X => za (j := i) (k := 0) kC rfl hw1 rfl rfl) <| qC rfl (fun X => wQ rfl (zh _)) <| ParH.nil rfl) ?_
      dsimp only [ze, List.drop, List.length]
      refine wE (by kernel_rfl) (qx (j := Q) (off := Q * 131) rfl rfl hQ (by omega) (by simp)) ?_
      refine kT (by kernel_rfl) (zH (j := Q) (p' := nb) zh rfl rfl rfl (yI (by omega)) rfl (Kk _)) ?_
      refine wI ?_
      rw [show (z7 f).set Q nb = z7 (upd f (Q : Int) nb) from zo]
      refine qe <| qJ <| qK <| qA rfl <| q9 (w9 rfl rfl (by omega)) <| qE rfl <| qT <| w6 ⟨(i + 1, upd f (Q : Int) nb, k + (qb - qa), _), ?_⟩ ?_ ?_
      · (try dsimp only); exact ⟨by omega, by omega, by omega, by rw [hnb]; exact hw, by omega⟩
      · (try dsimp only); omega
      · (try dsimp only); exact qX _
    ·
     refine wa <| qr <| qt <| qh <| qJ <| qN <| qN ?_
     rw [List.drop_of_length_le (by omega), ky] at hw
     have hT : kU W a bs = (0, { W with all := f, size := max W.size (a + bs.length) }) := by unfold kU; rw [if_neg hne, hl, ← hw]
     refine yy (L' := [(b3, .cells [.int .u32 W.num, .int .u32 W.ver, .int .i64 W.kind, .int .i64 W.size, .int .u32 W.time, .slice (some ⟨ba, 0, none⟩) 1064 1064, .slice (some ⟨bl, 0, none⟩) 32 32, .int .i64 W.sg.at_, .bool W.sg.stale, .int .i64 W.db.at_, .bool W.db.stale, .int .i64 W.self.at_, .bool W.self.stale, .slice pg W.gone.length cg].toArray 41 (0, 0))] :: [(b6, .cells node0V.toArray 41 (0, 0))] :: ((ba, .cells ((z7 f).flatMap wz ++ []).toArray 125 (0, 0)) :: (bl, .cells ((wN W.leaves).flatMap wy ++ []).toArray 38 (0, 0)) :: Cg) :: F) (fun w hw => wZ (by simp) w hw.tail) ?_
     refine qK <| qA rfl <| qA rfl <| q9 (w8 rfl) <| q9 (w9 rfl rfl (by omega)) <| q9 (qB rfl) <| q9 (qI rfl rfl) <| q9 (y8 rfl rfl) <| qF <| qM rfl (fun hc17 => ?_) (fun hc17 => ?_)
     ·
      refine qK <| qA rfl <| qA rfl <| q9 (w8 rfl) <| q9 (w9 rfl rfl (by omega)) <| q9 (qB rfl) <| qR (wu rfl rfl rfl) <| qm <| q9 (wW rfl) <| qR (wc rfl rfl rfl rfl) <| qE rfl <| qF <| qy <| wU (((ba, .cells ((z7 f).flatMap wz ++ []).toArray 125 (0, 0)) :: (bl, .cells ((wN W.leaves).flatMap wy ++ []).toArray 38 (0, 0)) :: Cg) :: F) (.inl rfl) rfl (zU rfl) (qu rfl) ?_
      rw [hT]
      first
      | exact ⟨_, _, rfl, ⟨_, Cg, by rw [show max W.size (a + bs.length) = a + bs.length from by omega]; rfl, hs, rfl⟩, rfl⟩
      | exact ⟨_, _, rfl, ⟨_, Cg, by rw [show max W.size (a + bs.length) = W.size from by omega]; rfl, hs, rfl⟩, rfl⟩
     ·
      refine qZ <| qJ <| qO <| q9 (wW rfl) <| qR (wc rfl rfl rfl rfl) <| qE rfl <| qF <| qy <| wU (((ba, .cells ((z7 f).flatMap wz ++ []).toArray 125 (0, 0)) :: (bl, .cells ((wN W.leaves).flatMap wy ++ []).toArray 38 (0, 0)) :: Cg) :: F) (.inl rfl) rfl (zU rfl) (qu rfl) ?_
      rw [hT]
      first
      | exact ⟨_, _, rfl, ⟨_, Cg, by rw [show max W.size (a + bs.length) = a + bs.length from by omega]; rfl, hs, rfl⟩, rfl⟩
      | exact ⟨_, _, rfl, ⟨_, Cg, by rw [show max W.size (a + bs.length) = W.size from by omega]; rfl, hs, rfl⟩, rfl⟩
def yH (W : RS) (p : yF) : RS := if p.at_ ≠ 0 then { W with gone := W.gone ++ [p.at_] } else W
theorem yn (W : RS) (v : List Value) (C : qV) (hw : RefC ba bl W v C) (p : yF) (hgl : W.gone.length ≤ 900000) :
    FnT Tryz.prog w0 67 #[.agg v.toArray, .agg (wy p).toArray] (C :: F) (fun v L' => ∃ l C', v = .tuple #[.agg l.toArray, .agg (wy ⟨0, false⟩).toArray] ∧ RefC ba bl (yH W p) l C' ∧ L' = C' :: F) := by
  obtain ⟨ug, Cg, rfl, hs, rfl⟩ := hw
  obtain ⟨pg, cg, rfl⟩ := hs.slice
  refine FnT.pre (L' := [(ba, .cells ((z7 W.all).flatMap wz ++ []).toArray 125 (0, 0))] :: [(bl, .cells ((wN W.leaves).flatMap wy ++ []).toArray 38 (0, 0))] :: Cg :: F) ?_ (wZ (by simp))
  unfold kV
  rw [show wy p = [.int .i64 p.at_, .bool p.stale] from rfl]
  refine qi (E0 := [(0, _), (1, _)]) (N := 18) Tryz.func67 rfl rfl rfl rfl ?_
  refine qO <| qG (wq rfl) ?_
  rintro t2 _ ⟨b2, rfl, rfl⟩
  refine qG (wq rfl) ?_
  rintro t3 _ ⟨b3, rfl, rfl⟩
  refine qG (qj) ?_
  rintro t4 _ ⟨b4, rfl, rfl⟩
  refine qG (qj) ?_
  rintro t5 _ ⟨b5, rfl, rfl⟩
  refine qF <| zY (Γ := {pΓ : (List Int) × (Option Addr) × (Nat) × (qV) // (fun (gl : List Int) (pg : Option Addr) (cg : Nat) (Cg : qV) => SlC 3 1 (.slice pg gl.length cg) gl.length (iV gl) Cg ∧ gl = (yH W p).gone) pΓ.1 pΓ.2.1 pΓ.2.2.1 pΓ.2.2.2}) (fun g => (fun (gl : List Int) (pg : Option Addr) (cg : Nat) (Cg : qV) => [(2, .pointer (some ⟨b2, 0, none⟩)), (4, .pointer (some ⟨b4, 0, none⟩)), (5, .pointer (some ⟨b5, 0, none⟩))]) g.1.1 g.1.2.1 g.1.2.2.1 g.1.2.2.2) (fun g => (fun (gl : List Int) (pg : Option Addr) (cg : Nat) (Cg : qV) => [(b2, .cells [.int .u32 W.num, .int .u32 W.ver, .int .i64 W.kind, .int .i64 W.size, .int .u32 W.time, .slice (some ⟨ba, 0, none⟩) 1064 1064, .slice (some ⟨bl, 0, none⟩) 32 32, .int .i64 W.sg.at_, .bool W.sg.stale, .int .i64 W.db.at_, .bool W.db.stale, .int .i64 W.self.at_, .bool W.self.stale, .slice pg gl.length cg].toArray 41 (0, 0))] :: [(b4, .cells node0V.toArray 41 (0, 0))] :: [(b5, .cells [Value.int .i64 0, Value.bool false].toArray 38 (0, 0))] :: [(ba, .cells ((z7 W.all).flatMap wz ++ []).toArray 125 (0, 0))] :: [(bl, .cells ((wN W.leaves).flatMap wy ++ []).toArray 38 (0, 0))] :: Cg :: F) g.1.1 g.1.2.1 g.1.2.2.1 g.1.2.2.2) ?_ ?_
  ·
   refine qO <| q9 (qB rfl) <| q9 (qI rfl rfl) <| q9 (zE rfl rfl) <| qF <| qM rfl (fun hc1 => ?_) (fun hc1 => ?_)
   ·
    refine qK <| q9 (qB rfl) <| q9 (qI rfl rfl) <| q9 (qB rfl) <| q9 (qI rfl rfl) <| qG (wK rfl rfl rfl) ?_
    rintro t13 _ ⟨b13, rfl, rfl⟩
    refine qG (wg (m := 1) (sz := 1) rfl rfl hs (wk (ys := iV [p.at_]) inferInstance rfl rfl) rfl Tryz.underlying39 rfl rfl (by omega)) ?_
    rintro t14 _ ⟨C', hs', rfl⟩
    obtain ⟨pg', cg', rfl⟩ := hs'.slice
    refine q9 (qB rfl) <| qR (wu rfl rfl rfl) <| qT <| qW ⟨(W.gone ++ [p.at_], pg', cg', C'), ?_⟩ ?_
    · (try dsimp only); exact ⟨by rw [List.length_append]; simpa [iV] using hs', by unfold yH; rw [if_pos hc1]⟩
    · (try dsimp only); exact (by rw [List.length_append]; exact qX _)
   ·
    refine qZ <| qW ⟨(W.gone, pg, cg, Cg), ?_⟩ ?_
    · (try dsimp only); exact ⟨hs, by unfold yH; rw [if_neg hc1]⟩
    · (try dsimp only); exact qX _
  rintro ⟨⟨gl, pg, cg, Cg⟩, hcut⟩
  replace hcut : SlC 3 1 (.slice pg gl.length cg) gl.length (iV gl) Cg ∧ gl = (yH W p).gone := hcut
  obtain ⟨hs2, hgl2⟩ := hcut
  show Tr _ _ _ ([(2, .pointer (some ⟨b2, 0, none⟩)), (4, .pointer (some ⟨b4, 0, none⟩)), (5, .pointer (some ⟨b5, 0, none⟩))]) ([(b2, .cells [.int .u32 W.num, .int .u32 W.ver, .int .i64 W.kind, .int .i64 W.size, .int .u32 W.time, .slice (some ⟨ba, 0, none⟩) 1064 1064, .slice (some ⟨bl, 0, none⟩) 32 32, .int .i64 W.sg.at_, .bool W.sg.stale, .int .i64 W.db.at_, .bool W.db.stale, .int .i64 W.self.at_, .bool W.self.stale, .slice pg gl.length cg].toArray 41 (0, 0))] :: [(b4, .cells node0V.toArray 41 (0, 0))] :: [(b5, .cells [Value.int .i64 0, Value.bool false].toArray 38 (0, 0))] :: [(ba, .cells ((z7 W.all).flatMap wz ++ []).toArray 125 (0, 0))] :: [(bl, .cells ((wN W.leaves).flatMap wy ++ []).toArray 38 (0, 0))] :: Cg :: F) _ _
  refine qO <| q9 (wW rfl) <| q9 (kI rfl Tryz.underlying38 rfl (fun _ _ => ⟨_, inferInstance⟩) (fun _ _ h => by cases h)) ?_
  refine qR (wc rfl rfl rfl rfl) <| qR (wc rfl rfl rfl rfl) <| qT <| zN (L' := [(b4, .cells [.int .u32 W.num, .int .u32 W.ver, .int .i64 W.kind, .int .i64 W.size, .int .u32 W.time, .slice (some ⟨ba, 0, none⟩) 1064 1064, .slice (some ⟨bl, 0, none⟩) 32 32, .int .i64 W.sg.at_, .bool W.sg.stale, .int .i64 W.db.at_, .bool W.db.stale, .int .i64 W.self.at_, .bool W.self.stale, .slice pg gl.length cg].toArray 41 (0, 0))] :: [(b5, .cells [Value.int .i64 0, Value.bool false].toArray 38 (0, 0))] :: ((ba, .cells ((z7 W.all).flatMap wz ++ []).toArray 125 (0, 0)) :: (bl, .cells ((wN W.leaves).flatMap wy ++ []).toArray 38 (0, 0)) :: Cg) :: F) (fun w hw => wZ (by simp) w hw.tail) ?_
  refine qJ <| qy <| wU (((ba, .cells ((z7 W.all).flatMap wz ++ []).toArray 125 (0, 0)) :: (bl, .cells ((wN W.leaves).flatMap wy ++ []).toArray 38 (0, 0)) :: Cg) :: F) (.inl rfl) rfl (zU rfl) (zU rfl) <| ⟨_, _, rfl, ⟨_, Cg, ?_, by rw [← hgl2]; exact hs2, ?_⟩, rfl⟩ <;> unfold yH <;> split <;> rfl
def xQ (W : RS) (i : Int) : RS := { W with
  gone := if (W.all i).at_ ≠ 0 then W.gone ++ [(W.all i).at_] else W.gone
  all := upd W.all i Blk.zero
  self := ⟨W.self.at_, true⟩
  sg := if (wG i).1 = 1 then ⟨W.sg.at_, true⟩ else W.sg
  leaves := if (wG i).1 = 2 then upd W.leaves (wG i).2.1 ⟨(W.leaves (wG i).2.1).at_, true⟩ else W.leaves
  db := if (wG i).1 = 2 then ⟨W.db.at_, true⟩ else W.db }
theorem J8 {i : Int} (h : 0 ≤ i ∧ i < 1064) (h2 : (wG i).1 = 2) : 0 ≤ (wG i).2.1 ∧ (wG i).2.1 < 32 := by
  by_cases h8 : i < 8
  · unfold wG at h2; rw [if_neg (by omega), if_pos h8] at h2; simp at h2
  · by_cases h40 : i < 40
    · unfold wG at h2; rw [if_neg (by omega), if_neg h8, if_pos h40] at h2; simp at h2
    · have e : wG i = (2, (i - 40) / 32, (i - 40) % 32) := by unfold wG; rw [if_neg (by omega), if_neg h8, if_neg h40, if_pos (by omega)]
      rw [e]; dsimp only; omega
theorem rhole_ok (W : RS) (v : List Value) (C : qV) (hw : RefC ba bl W v C) (i : Nat) (hi : i < 1064) (hgl : W.gone.length ≤ 900000) :
    FnT Tryz.prog w0 65 #[.agg v.toArray, .int .i64 i] (C :: F) (fun v L' => ∃ l C', v = .agg l.toArray ∧ RefC ba bl (xQ W i) l C' ∧ L' = C' :: F) := by
  obtain ⟨ug, Cg, rfl, hs, rfl⟩ := hw
  obtain ⟨pg, cg, rfl⟩ := hs.slice
  refine FnT.pre (L' := [(ba, .cells ((z7 W.all).flatMap wz ++ []).toArray 125 (0, 0))] :: [(bl, .cells ((wN W.leaves).flatMap wy ++ []).toArray 38 (0, 0))] :: Cg :: F) ?_ (wZ (by simp))
  unfold kV
  refine qi (E0 := [(0, _), (1, _)]) (N := 54) Tryz.func65 rfl rfl rfl rfl ?_
  refine qO <| qG (wq rfl) ?_
  rintro t2 _ ⟨b2, rfl, rfl⟩
  refine qG (qj) ?_
  rintro t4 _ ⟨b4, rfl, rfl⟩
  refine qF <| zY (Γ := {pΓ : (List Int) × (Option Addr) × (Nat) × (qV) // (fun (gl : List Int) (pg : Option Addr) (cg : Nat) (Cg : qV) => SlC 3 1 (.slice pg gl.length cg) gl.length (iV gl) Cg ∧ gl = (xQ W i).gone) pΓ.1 pΓ.2.1 pΓ.2.2.1 pΓ.2.2.2}) (fun g => (fun (gl : List Int) (pg : Option Addr) (cg : Nat) (Cg : qV) => [(1, .int .i64 i), (2, .pointer (some ⟨b2, 0, none⟩)), (4, .pointer (some ⟨b4, 0, none⟩))]) g.1.1 g.1.2.1 g.1.2.2.1 g.1.2.2.2) (fun g => (fun (gl : List Int) (pg : Option Addr) (cg : Nat) (Cg : qV) => [(b2, .cells [.int .u32 W.num, .int .u32 W.ver, .int .i64 W.kind, .int .i64 W.size, .int .u32 W.time, .slice (some ⟨ba, 0, none⟩) 1064 1064, .slice (some ⟨bl, 0, none⟩) 32 32, .int .i64 W.sg.at_, .bool W.sg.stale, .int .i64 W.db.at_, .bool W.db.stale, .int .i64 W.self.at_, .bool W.self.stale, .slice pg gl.length cg].toArray 41 (0, 0))] :: [(b4, .cells node0V.toArray 41 (0, 0))] :: [(ba, .cells ((z7 W.all).flatMap wz ++ []).toArray 125 (0, 0))] :: [(bl, .cells ((wN W.leaves).flatMap wy ++ []).toArray 38 (0, 0))] :: Cg :: F) g.1.1 g.1.2.1 g.1.2.2.1 g.1.2.2.2) ?_ ?_
  ·
   refine qO <| q9 (qB rfl) <| q9 (qI rfl rfl) <| qA rfl <| q9 (qx (j := i) (off := i * 131) rfl rfl rfl (by omega) (by simp)) ?_
   refine q9 (wA rfl) <| q9 (za (j := i) (k := 1) (v := .int .i64 (W.all i).at_) zh rfl (yI hi) rfl rfl) <| q9 (zE rfl rfl) <| qF <| qM rfl (fun hc1 => ?_) (fun hc1 => ?_)
   ·
    refine yb wB (show TrS _ _ _ _ [false, false, false, false, false, false, false, false, false, false, false, false] _ _ _ from ?_)
    refine qH 0 rfl rfl rfl (wo rfl) <| qH 2 rfl rfl rfl (wo rfl) <| qH 4 rfl rfl rfl (wO rfl) <| wv (i := 1) (j := 3) (by kernel_rfl) rfl ?_ ?_
    ·
     refine qd rfl rfl rfl (qI rfl rfl) <| qS 3 rfl <| qd rfl rfl rfl (qI rfl rfl) <| qH 5 rfl rfl rfl (ws (j := i) (off := i * 131) rfl rfl rfl (by omega) (by simp)) ?_
     refine qH 6 rfl rfl rfl (ZA rfl) <| qS 7 rfl <| qd rfl rfl rfl (za (j := i) (k := 1) (v := .int .i64 (W.all i).at_) zh rfl (yI hi) rfl rfl) <| qS 8 rfl <| w7 rfl rfl rfl (wK rfl rfl rfl) ?_
     rintro t22 _ ⟨b22, rfl, rfl⟩
     refine qS 9 rfl <| w7 rfl rfl rfl (wg (m := 1) (sz := 1) rfl rfl hs (wk (ys := iV [(W.all i).at_]) inferInstance rfl rfl) rfl Tryz.underlying39 rfl rfl (by omega)) ?_
     rintro t23 _ ⟨C', hs', rfl⟩
     obtain ⟨pg', cg', rfl⟩ := hs'.slice
     refine qH 10 rfl rfl rfl (wo rfl) <| qS 11 rfl <| wR rfl rfl rfl (wu rfl rfl rfl) <| wF <| qW ⟨(W.gone ++ [(W.all i).at_], pg', cg', C'), ?_⟩ ?_
     · (try dsimp only); exact ⟨by rw [List.length_append]; simpa [iV] using hs', by unfold xQ; rw [if_pos hc1]⟩
     · (try dsimp only); exact (by rw [List.length_append]; exact qX _)
    ·
     refine qd rfl rfl rfl (qI rfl rfl) <| qH 5 rfl rfl rfl (ws (j := i) (off := i * 131) rfl rfl rfl (by omega) (by simp)) ?_
     refine qH 6 rfl rfl rfl (ZA rfl) <| wv (i := 1) (j := 7) (by kernel_rfl) rfl ?_ ?_
     ·
      refine qd rfl rfl rfl (qI rfl rfl) <| qS 7 rfl <| qd rfl rfl rfl (za (j := i) (k := 1) (v := .int .i64 (W.all i).at_) zh rfl (yI hi) rfl rfl) <| qS 8 rfl <| w7 rfl rfl rfl (wK rfl rfl rfl) ?_
      rintro t22 _ ⟨b22, rfl, rfl⟩
      refine qS 9 rfl <| w7 rfl rfl rfl (wg (m := 1) (sz := 1) rfl rfl hs (wk (ys := iV [(W.all i).at_]) inferInstance rfl rfl) rfl Tryz.underlying39 rfl rfl (by omega)) ?_
      rintro t23 _ ⟨C', hs', rfl⟩
      obtain ⟨pg', cg', rfl⟩ := hs'.slice
      refine qH 10 rfl rfl rfl (wo rfl) <| qS 11 rfl <| wR rfl rfl rfl (wu rfl rfl rfl) <| wF <| qW ⟨(W.gone ++ [(W.all i).at_], pg', cg', C'), ?_⟩ ?_
      · (try dsimp only); exact ⟨by rw [List.length_append]; simpa [iV] using hs', by unfold xQ; rw [if_pos hc1]⟩
      · (try dsimp only); exact (by rw [List.length_append]; exact qX _)
     ·
      refine qd rfl rfl rfl (za (j := i) (k := 1) (v := .int .i64 (W.all i).at_) zh rfl (yI hi) rfl rfl) <| wv (i := 1) (j := 8) (by kernel_rfl) rfl ?_ ?_
      ·
       refine qd rfl rfl rfl (qI rfl rfl) <| qS 8 rfl <| w7 rfl rfl rfl (wK rfl rfl rfl) ?_
       rintro t22 _ ⟨b22, rfl, rfl⟩
       refine qS 9 rfl <| w7 rfl rfl rfl (wg (m := 1) (sz := 1) rfl rfl hs (wk (ys := iV [(W.all i).at_]) inferInstance rfl rfl) rfl Tryz.underlying39 rfl rfl (by omega)) ?_
       rintro t23 _ ⟨C', hs', rfl⟩
       obtain ⟨pg', cg', rfl⟩ := hs'.slice
       refine qH 10 rfl rfl rfl (wo rfl) <| qS 11 rfl <| wR rfl rfl rfl (wu rfl rfl rfl) <| wF <| qW ⟨(W.gone ++ [(W.all i).at_], pg', cg', C'), ?_⟩ ?_
       · (try dsimp only); exact ⟨by rw [List.length_append]; simpa [iV] using hs', by unfold xQ; rw [if_pos hc1]⟩
       · (try dsimp only); exact (by rw [List.length_append]; exact qX _)
      ·
       refine w7 rfl rfl rfl (wK rfl rfl rfl) ?_
       rintro t22 _ ⟨b22, rfl, rfl⟩
       refine qS 1 rfl <| qd rfl rfl rfl (qI rfl rfl) <| qS 9 rfl <| w7 rfl rfl rfl (wg (m := 1) (sz := 1) rfl rfl hs (wk (ys := iV [(W.all i).at_]) inferInstance rfl rfl) rfl Tryz.underlying39 rfl rfl (by omega)) ?_
       rintro t23 _ ⟨C', hs', rfl⟩
       obtain ⟨pg', cg', rfl⟩ := hs'.slice
       refine qH 10 rfl rfl rfl (wo rfl) <| qS 11 rfl <| wR rfl rfl rfl (wu rfl rfl rfl) <| wF <| qW ⟨(W.gone ++ [(W.all i).at_], pg', cg', C'), ?_⟩ ?_
       · (try dsimp only); exact ⟨by rw [List.length_append]; simpa [iV] using hs', by unfold xQ; rw [if_pos hc1]⟩
       · (try dsimp only); exact (by rw [List.length_append]; exact qX _)
   ·
    refine qZ <| qW ⟨(W.gone, pg, cg, Cg), ?_⟩ ?_
    · (try dsimp only); exact ⟨hs, by unfold xQ; rw [if_neg hc1]⟩
    · (try dsimp only); exact qX _
  rintro ⟨⟨gl, pg, cg, Cg⟩, hcut⟩
  replace hcut : SlC 3 1 (.slice pg gl.length cg) gl.length (iV gl) Cg ∧ gl = (xQ W i).gone := hcut
  obtain ⟨hs2, hgl2⟩ := hcut
  show Tr _ _ _ ([(1, .int .i64 i), (2, .pointer (some ⟨b2, 0, none⟩)), (4, .pointer (some ⟨b4, 0, none⟩))]) ([(b2, .cells [.int .u32 W.num, .int .u32 W.ver, .int .i64 W.kind, .int .i64 W.size, .int .u32 W.time, .slice (some ⟨ba, 0, none⟩) 1064 1064, .slice (some ⟨bl, 0, none⟩) 32 32, .int .i64 W.sg.at_, .bool W.sg.stale, .int .i64 W.db.at_, .bool W.db.stale, .int .i64 W.self.at_, .bool W.self.stale, .slice pg gl.length cg].toArray 41 (0, 0))] :: [(b4, .cells node0V.toArray 41 (0, 0))] :: [(ba, .cells ((z7 W.all).flatMap wz ++ []).toArray 125 (0, 0))] :: [(bl, .cells ((wN W.leaves).flatMap wy ++ []).toArray 38 (0, 0))] :: Cg :: F) _ _
  refine qO <| q9 (qB rfl) <| q9 (qI rfl rfl) <| qA rfl <| q9 (kI (z := .agg (wz Blk.zero).toArray) rfl Tryz.underlying125 rfl (fun _ _ => ⟨_, inferInstance⟩) (fun _ _ h => by cases h)) ?_
  refine q9 (qx (j := i) (off := i * 131) rfl rfl rfl (by omega) (by simp)) ?_
  refine qR (zH (j := i) (p' := Blk.zero) zh rfl rfl rfl (yI hi) rfl (Kk _)) <| qT ?_
  rw [show (z7 W.all).set i Blk.zero = z7 (upd W.all i Blk.zero) from zo]
  refine qJ <| qO <| q9 (qB rfl) <| q9 (wA rfl) <| qR (wu rfl rfl rfl) <| qm <| qA rfl <| q9 (wM rfl (KB i (by omega))) <| qA rfl <| q9 (qf rfl rfl) <| q9 (qf rfl rfl) <| qG (qj) ?_
  rintro t5 _ ⟨b5, rfl, rfl⟩
  refine qR (wc (vs := [.int .i64 (wG i).1, .int .i64 (wG i).2.1, .int .i64 (wG i).2.2]) rfl rfl rfl rfl) <| qE rfl <| qF <| zY (Γ := {pΓ : (yF) // (fun (sg : yF) => sg = (if (wG i).1 = 1 then ⟨W.sg.at_, true⟩ else W.sg)) pΓ}) (fun g => (fun (sg : yF) => [(2, .pointer (some ⟨b2, 0, none⟩)), (4, .pointer (some ⟨b4, 0, none⟩)), (5, .pointer (some ⟨b5, 0, none⟩))]) g.1) (fun g => (fun (sg : yF) => [(b5, .cells [.int .i64 (wG i).1, .int .i64 (wG i).2.1, .int .i64 (wG i).2.2].toArray 143 (0, 0))] :: [(b2, .cells [.int .u32 W.num, .int .u32 W.ver, .int .i64 W.kind, .int .i64 W.size, .int .u32 W.time, .slice (some ⟨ba, 0, none⟩) 1064 1064, .slice (some ⟨bl, 0, none⟩) 32 32, .int .i64 sg.at_, .bool sg.stale, .int .i64 W.db.at_, .bool W.db.stale, .int .i64 W.self.at_, .bool true, .slice pg gl.length cg].toArray 41 (0, 0))] :: [(b4, .cells node0V.toArray 41 (0, 0))] :: [(ba, .cells ((z7 (upd W.all i Blk.zero)).flatMap wz ++ []).toArray 125 (0, 0))] :: [(bl, .cells ((wN W.leaves).flatMap wy ++ []).toArray 38 (0, 0))] :: Cg :: F) g.1) ?_ ?_
  ·
   refine qO <| q9 (qB rfl) <| q9 (qI rfl rfl) <| q9 (wn rfl rfl) <| qF <| qM rfl (fun hc6 => ?_) (fun hc6 => ?_)
   ·
    refine qK <| q9 (qB rfl) <| q9 (wA rfl) <| qR (wu rfl rfl rfl) <| qT <| qW ⟨⟨W.sg.at_, true⟩, ?_⟩ ?_
    · (try dsimp only); rw [if_pos hc6]
    · (try dsimp only); exact qX _
   ·
    refine qZ <| qW ⟨W.sg, ?_⟩ ?_
    · (try dsimp only); rw [if_neg hc6]
    · (try dsimp only); exact qX _
  rintro ⟨sg, hcut⟩
  replace hcut : sg = (if (wG i).1 = 1 then ⟨W.sg.at_, true⟩ else W.sg) := hcut
  have hsg := hcut
  show Tr _ _ _ ([(2, .pointer (some ⟨b2, 0, none⟩)), (4, .pointer (some ⟨b4, 0, none⟩)), (5, .pointer (some ⟨b5, 0, none⟩))]) ([(b5, .cells [.int .i64 (wG i).1, .int .i64 (wG i).2.1, .int .i64 (wG i).2.2].toArray 143 (0, 0))] :: [(b2, .cells [.int .u32 W.num, .int .u32 W.ver, .int .i64 W.kind, .int .i64 W.size, .int .u32 W.time, .slice (some ⟨ba, 0, none⟩) 1064 1064, .slice (some ⟨bl, 0, none⟩) 32 32, .int .i64 sg.at_, .bool sg.stale, .int .i64 W.db.at_, .bool W.db.stale, .int .i64 W.self.at_, .bool true, .slice pg gl.length cg].toArray 41 (0, 0))] :: [(b4, .cells node0V.toArray 41 (0, 0))] :: [(ba, .cells ((z7 (upd W.all i Blk.zero)).flatMap wz ++ []).toArray 125 (0, 0))] :: [(bl, .cells ((wN W.leaves).flatMap wy ++ []).toArray 38 (0, 0))] :: Cg :: F) _ _
  refine zY (Γ := {pΓ : (Int → yF) × (yF) // (fun (lvs : Int → yF) (db : yF) => lvs = (if (wG i).1 = 2 then upd W.leaves (wG i).2.1 ⟨(W.leaves (wG i).2.1).at_, true⟩ else W.leaves) ∧ db = (if (wG i).1 = 2 then ⟨W.db.at_, true⟩ else W.db)) pΓ.1 pΓ.2}) (fun g => (fun (lvs : Int → yF) (db : yF) => [(2, .pointer (some ⟨b2, 0, none⟩)), (4, .pointer (some ⟨b4, 0, none⟩))]) g.1.1 g.1.2) (fun g => (fun (lvs : Int → yF) (db : yF) => [(b2, .cells [.int .u32 W.num, .int .u32 W.ver, .int .i64 W.kind, .int .i64 W.size, .int .u32 W.time, .slice (some ⟨ba, 0, none⟩) 1064 1064, .slice (some ⟨bl, 0, none⟩) 32 32, .int .i64 sg.at_, .bool sg.stale, .int .i64 db.at_, .bool db.stale, .int .i64 W.self.at_, .bool true, .slice pg gl.length cg].toArray 41 (0, 0))] :: [(b4, .cells node0V.toArray 41 (0, 0))] :: [(ba, .cells ((z7 (upd W.all i Blk.zero)).flatMap wz ++ []).toArray 125 (0, 0))] :: [(bl, .cells ((wN lvs).flatMap wy ++ []).toArray 38 (0, 0))] :: Cg :: F) g.1.1 g.1.2) ?_ ?_
  ·
   refine qO <| q9 (qB rfl) <| q9 (qI rfl rfl) <| q9 (wn rfl rfl) <| qF <| qM rfl (fun hc8 => ?_) (fun hc8 => ?_)
   ·
    refine qN ?_
    have hpr := J8 (i := i) (by omega) hc8
    obtain ⟨lf, hlf⟩ : ∃ lf : Nat, (wG i).2.1 = lf := ⟨(wG i).2.1.toNat, by omega⟩
    refine qK <| q9 (qB rfl) <| q9 (qI rfl rfl) <| q9 (qB rfl) <| q9 (qI rfl rfl) <| q9 (qx (j := lf) (off := lf * 2) rfl rfl hlf (by omega) (by simp)) ?_
    refine q9 (wA rfl) <| qR (yU (j := lf) (k := 1) (p' := ⟨(W.leaves lf).at_, true⟩) zV rfl rfl (zF (by omega)) rfl rfl rfl) <| qT ?_
    rw [show (wN W.leaves).set lf ⟨(W.leaves lf).at_, true⟩ = wN (upd W.leaves (lf : Int) ⟨(W.leaves lf).at_, true⟩) from zo]
    refine qJ <| qK <| q9 (qB rfl) <| q9 (wA rfl) <| qR (wu rfl rfl rfl) <| qT <| qW ⟨(upd W.leaves (lf : Int) ⟨(W.leaves lf).at_, true⟩, ⟨W.db.at_, true⟩), ?_⟩ ?_
    · (try dsimp only); rw [if_pos hc8, if_pos hc8, hlf]; exact ⟨rfl, rfl⟩
    · (try dsimp only); exact qX _
   ·
    refine qZ <| qW ⟨(W.leaves, W.db), ?_⟩ ?_
    · (try dsimp only); rw [if_neg hc8, if_neg hc8]; exact ⟨rfl, rfl⟩
    · (try dsimp only); exact qX _
  rintro ⟨⟨lvs, db⟩, hcut⟩
  replace hcut : lvs = (if (wG i).1 = 2 then upd W.leaves (wG i).2.1 ⟨(W.leaves (wG i).2.1).at_, true⟩ else W.leaves) ∧ db = (if (wG i).1 = 2 then ⟨W.db.at_, true⟩ else W.db) := hcut
  obtain ⟨hlv, hdb⟩ := hcut
  show Tr _ _ _ ([(2, .pointer (some ⟨b2, 0, none⟩)), (4, .pointer (some ⟨b4, 0, none⟩))]) ([(b2, .cells [.int .u32 W.num, .int .u32 W.ver, .int .i64 W.kind, .int .i64 W.size, .int .u32 W.time, .slice (some ⟨ba, 0, none⟩) 1064 1064, .slice (some ⟨bl, 0, none⟩) 32 32, .int .i64 sg.at_, .bool sg.stale, .int .i64 db.at_, .bool db.stale, .int .i64 W.self.at_, .bool true, .slice pg gl.length cg].toArray 41 (0, 0))] :: [(b4, .cells node0V.toArray 41 (0, 0))] :: [(ba, .cells ((z7 (upd W.all i Blk.zero)).flatMap wz ++ []).toArray 125 (0, 0))] :: [(bl, .cells ((wN lvs).flatMap wy ++ []).toArray 38 (0, 0))] :: Cg :: F) _ _
  refine qO <| q9 (wW rfl) <| qR (wc rfl rfl rfl rfl) <| qT <| zN (L' := [(b4, .cells [.int .u32 W.num, .int .u32 W.ver, .int .i64 W.kind, .int .i64 W.size, .int .u32 W.time, .slice (some ⟨ba, 0, none⟩) 1064 1064, .slice (some ⟨bl, 0, none⟩) 32 32, .int .i64 sg.at_, .bool sg.stale, .int .i64 db.at_, .bool db.stale, .int .i64 W.self.at_, .bool true, .slice pg gl.length cg].toArray 41 (0, 0))] :: ((ba, .cells ((z7 (upd W.all i Blk.zero)).flatMap wz ++ []).toArray 125 (0, 0)) :: (bl, .cells ((wN lvs).flatMap wy ++ []).toArray 38 (0, 0)) :: Cg) :: F) (fun w hw => wZ (by simp) w hw.tail) ?_
  refine qJ <| qy <| wC (((ba, .cells ((z7 (upd W.all i Blk.zero)).flatMap wz ++ []).toArray 125 (0, 0)) :: (bl, .cells ((wN lvs).flatMap wy ++ []).toArray 38 (0, 0)) :: Cg) :: F) (.inl rfl) rfl (zU rfl) ?_
  exact ⟨_, _, rfl, ⟨_, Cg, by rw [hsg, hdb]; rfl, by rw [← hgl2]; exact hs2, by rw [hlv]; rfl⟩, rfl⟩
theorem RefC.at {W : RS} {v : List Value} {C : qV} (h : RefC ba bl W v C) : ∃ pg cg Cg, v = kV W ba bl (.slice pg W.gone.length cg) ∧ SlC 3 1 (.slice pg W.gone.length cg) W.gone.length (iV W.gone) Cg ∧ C = ((ba, .cells ((z7 W.all).flatMap wz ++ []).toArray 125 (0, 0)) :: (bl, .cells ((wN W.leaves).flatMap wy ++ []).toArray 38 (0, 0)) :: Cg) := by
  obtain ⟨ug, Cg, rfl, hs, rfl⟩ := h
  obtain ⟨pg, cg, rfl⟩ := hs.slice
  exact ⟨pg, cg, Cg, rfl, hs, rfl⟩
theorem RefC.len {W : RS} {v : List Value} {C : qV} (h : RefC ba bl W v C) : v.length = 14 := by
  obtain ⟨ug, Cg, rfl, hs, rfl⟩ := h; rfl
theorem RefC.one {W : RS} {v : List Value} {C : qV} (h : RefC ba bl W v C) : v.all (·.oneCell') = true := by
  obtain ⟨pg, cg, Cg, rfl, hs, rfl⟩ := h.at; rfl
section
variable {P : Program} {N : Nat} {E : Env}
theorem y0 {α : Type} {enc : α → List Value} {x : Operand} {t ty sz : TypeId} {b off j k : Nat} {xs : List α} {r : List Value} {e : TypeId} {fr : Nat × Nat} {p : α} {v : Value} [ht : TyScalar P t]
    (he : ∀ x, (enc x).length = sz) (hx : opv E x = some (.pointer (some ⟨b, off, none⟩))) (hm : (b, .cells (xs.flatMap enc ++ r).toArray e fr) ∈ L.flatten) (hj : xs[j]? = some p) (ho : off = j * sz + k) (hv : wY (enc p) k = some v) (hk : Nat.blt k sz = true := by rfl) :
    Op1 P N w0 E L (.load t x) ty v L :=
  YV hx hm (by
    rw [List.getElem?_toArray, ho, KY he xs r hj (by simpa [Nat.blt_eq] using hk)]
    rw [zB] at hv; exact hv)
theorem zg {α : Type} {enc : α → List Value} {x : Operand} {t ty sz : TypeId} {b off j : Nat} {xs : List α} {r : List Value} {e : TypeId} {fr : Nat × Nat} {p : α} [ht : TyAgg P t sz]
    (he : ∀ x, (enc x).length = sz) (hx : opv E x = some (.pointer (some ⟨b, off, none⟩))) (hm : (b, .cells (xs.flatMap enc ++ r).toArray e fr) ∈ L.flatten) (hj : xs[j]? = some p) (ho : off = j * sz) :
    Op1 P N w0 E L (.load t x) ty (.agg (enc p).toArray) L :=
  k0 hx hm (by subst ho; exact Qj he xs r hj) (by
    have hlt := (List.getElem?_eq_some_iff.1 hj).1
    have h1 := kR he xs
    have h2 : (j + 1) * sz ≤ xs.length * sz := Nat.mul_le_mul_right _ hlt
    rw [Nat.add_mul] at h2
    simp [ho]; rw [← List.length_flatMap, h1]; omega)
end
theorem RefC.setSg {W : RS} {v : List Value} {C : qV} (h : RefC ba bl W v C) (p : yF) : RefC ba bl { W with sg := p } (v.take 7 ++ wy p ++ v.drop 9) C := by
  obtain ⟨ug, Cg, rfl, hs, rfl⟩ := h
  exact ⟨ug, Cg, rfl, hs, rfl⟩
theorem RefC.setDb {W : RS} {v : List Value} {C : qV} (h : RefC ba bl W v C) (p : yF) : RefC ba bl { W with db := p } (v.take 9 ++ wy p ++ v.drop 11) C := by
  obtain ⟨ug, Cg, rfl, hs, rfl⟩ := h
  exact ⟨ug, Cg, rfl, hs, rfl⟩
def j1 (W : RS) (t : Int) : RS := if W.time ≠ t then { W with time := t, self := ⟨W.self.at_, true⟩ } else W
theorem QE (W : RS) (v : List Value) (C : qV) (hw : RefC ba bl W v C) (t : Int) :
    FnT Tryz.prog w0 36 #[.agg v.toArray, .int .u32 t] (C :: F) (fun v L' => ∃ l C', v = .agg l.toArray ∧ RefC ba bl (j1 W t) l C' ∧ L' = C' :: F) := by
  obtain ⟨pg, cg, Cg, rfl, hs, hC⟩ := hw.at
  unfold kV
  refine qi (E0 := [(0, _), (1, _)]) (N := 14) Tryz.func36 rfl rfl rfl rfl ?_
  refine qO <| qG (wq rfl) ?_
  rintro t2 _ ⟨b2, rfl, rfl⟩
  refine qG (qj) ?_
  rintro t4 _ ⟨b4, rfl, rfl⟩
  refine qF <| qN <| qO <| q9 (qB rfl) <| q9 (qI rfl rfl) <| qA rfl <| q9 (zE rfl rfl) <| qF <| qM rfl (fun hc1 => ?_) (fun hc1 => ?_)
  ·
   refine qO <| qA rfl <| q9 (qB rfl) <| qR (wu rfl rfl rfl) <| qF <| qK <| q9 (qB rfl) <| q9 (wA rfl) <| qR (wu rfl rfl rfl) <| qm <| q9 (wW rfl) <| qR (wc rfl rfl rfl rfl) <| qF <| qy <| wC (C :: F) (.inl rfl) rfl (zU rfl) ?_
   first
   | exact ⟨_, C, rfl, by unfold j1; rw [if_pos hc1, hC]; exact ⟨_, Cg, rfl, hs, rfl⟩, rfl⟩
   | exact ⟨_, C, rfl, by unfold j1; rw [if_neg hc1, hC]; exact ⟨_, Cg, rfl, hs, rfl⟩, rfl⟩
  ·
   refine qZ <| qJ <| qO <| q9 (wW rfl) <| qR (wc rfl rfl rfl rfl) <| qF <| qy <| wC (C :: F) (.inl rfl) rfl (zU rfl) ?_
   first
   | exact ⟨_, C, rfl, by unfold j1; rw [if_pos hc1, hC]; exact ⟨_, Cg, rfl, hs, rfl⟩, rfl⟩
   | exact ⟨_, C, rfl, by unfold j1; rw [if_neg hc1, hC]; exact ⟨_, Cg, rfl, hs, rfl⟩, rfl⟩
theorem Jk {K β : Type} [DecidableEq K] (f : K → β) (q : K) (a b : β) : upd (upd f q a) q b = upd f q b := by
  funext k; unfold upd; split <;> rfl
theorem upd_self {K β : Type} [DecidableEq K] (f : K → β) (q : K) : upd f q (f q) = f := by
  funext k; unfold upd; split
  · rename_i e; rw [e]
  · rfl
def YL (b : Blk) (k : Nat) : Blk := { b with s := b.s.clr k, fresh := true }
def ym (W : RS) (size : Int) : RS := if size < W.size ∧ size % 128 ≠ 0 ∧ (W.all (size / 128)).has = true then { W with all := upd W.all (size / 128) (YL (W.all (size / 128)) (size % 128).toNat) } else W
def yq (x : RS × Bool) (i : Int) : RS × Bool := if (x.1.all i).has = true then (xQ x.1 i, true) else x
def k7 (W : RS) (size : Int) : RS × Bool := ((zu 1064).drop (zW size).toNat).foldl yq (W, false)
def wd (w : RS) (k : Int) : RS := if yE w 2 k = true then w else { yH w (w.leaves k) with leaves := upd w.leaves k ⟨0, false⟩ }
def Qy (w : RS) : RS := if yE w 1 0 = true then w else { yH w w.sg with sg := ⟨0, false⟩ }
def YI (w : RS) : RS := if yE w 2 (-1) = true then w else { yH w w.db with db := ⟨0, false⟩ }
def Zc (x : RS × Bool) : RS := if x.2 = true then YI (Qy ((zu 32).foldl wd x.1)) else x.1
def K4 (W : RS) (size : Int) : RS := if W.size ≠ size then { W with size := size, self := ⟨W.self.at_, true⟩ } else W
def jZ (W : RS) (size : Int) : Int × RS :=
  if size < 0 then (1, W) else if 136192 < size then (12, W) else (0, K4 (Zc (k7 (ym W size) size)) size)
theorem yK (W : RS) (p : yF) : (yH W p).gone.length ≤ W.gone.length + 1 := by unfold yH; split <;> simp
theorem holeR_gone (W : RS) (i : Int) : (xQ W i).gone.length ≤ W.gone.length + 1 := by unfold xQ; dsimp only; split <;> simp
theorem zx (W : RS) (p : yF) : (yH W p).leaves = W.leaves := by unfold yH; split <;> rfl
theorem blk_zero_step (b : Blk) (r t : Nat) (h : r + t < 128) :
    (wz { b with s := yC b.s r (List.replicate t 0) }).set (3 + (r + t) * 1) (.int .u8 0) = wz { b with s := yC b.s r (List.replicate (t + 1) 0) } := by
  have := VZ b r t (List.replicate t 0) 0 (by simp) h (by rw [← List.replicate_succ']; exact Y2 _)
  rw [this, ← List.replicate_succ']
theorem kN (W : RS) (v : List Value) (C : qV) (hw : RefC ba bl W v C) (size : Int) (hsz : -9223372036854775808 ≤ size ∧ size ≤ 9223372036854775807) (hgl : W.gone.length ≤ 800000) (hWs : W.size ≤ 136192) :
    FnT Tryz.prog w0 28 #[.agg v.toArray, .int .i64 size] (C :: F) (fun v L' => ∃ l C', v = .tuple #[.agg l.toArray, .int .i64 (jZ W size).1] ∧ RefC ba bl (jZ W size).2 l C' ∧ L' = C' :: F) := by
  obtain ⟨pg, cg, Cg, rfl, hs, hC⟩ := hw.at
  unfold kV at hw ⊢
  refine qi (E0 := [(0, _), (1, _)]) (N := 125) Tryz.func28 rfl rfl rfl rfl ?_
  refine qO <| qG (wq rfl) ?_
  rintro t2 _ ⟨b2, rfl, rfl⟩
  refine qG (qj) ?_
  rintro t4 _ ⟨b4, rfl, rfl⟩
  refine qE rfl <| qF <| qN <| qO <| qA rfl <| q9 (wJ rfl rfl) <| qF <| qM rfl (fun hc1 => ?_) (fun hc1 => ?_)
  ·
   refine qO <| q9 (wW rfl) <| qR (wc rfl rfl rfl rfl) <| qE rfl <| qF <| qy <| qv <| wU (C :: F) (.inl rfl) rfl (zU rfl) (qu rfl) ?_
   exact ⟨_, C, by unfold jZ; rw [if_pos hc1], by unfold jZ; rw [if_pos hc1]; exact hw, rfl⟩
  ·
   refine qZ <| qJ <| qN <| qO <| qA rfl <| q9 (y8 rfl rfl) <| qF <| qM rfl (fun hc3 => ?_) (fun hc3 => ?_)
   ·
    refine qO <| q9 (wW rfl) <| qR (wc rfl rfl rfl rfl) <| qE rfl <| qF <| qy <| qv <| wU (C :: F) (.inl rfl) rfl (zU rfl) (qu rfl) ?_
    exact ⟨_, C, by unfold jZ; rw [if_neg hc1, if_pos hc3], by unfold jZ; rw [if_neg hc1, if_pos hc3]; exact hw, rfl⟩
   ·
    refine qZ <| qJ <| qO <| qA rfl <| q9 (wM rfl (rblocks_spec size (by omega))) <| qE rfl <| qT ?_
    obtain ⟨Q, hQ⟩ : ∃ Q : Nat, size / 128 = Q := ⟨(size / 128).toNat, by omega⟩
    obtain ⟨r, hr⟩ : ∃ r : Nat, size % 128 = r := ⟨(size % 128).toNat, by omega⟩
    refine qJ <| zY (Γ := {pΓ : (RS) × (List Value) × (qV) // (fun (W1 : RS) (v1 : List Value) (C1 : qV) => RefC ba bl W1 v1 C1 ∧ W1 = ym W size ∧ W1.gone.length ≤ 800000) pΓ.1 pΓ.2.1 pΓ.2.2}) (fun g => (fun (W1 : RS) (v1 : List Value) (C1 : qV) => [(1, .int .i64 size), (2, .pointer (some ⟨b2, 0, none⟩)), (4, .pointer (some ⟨b4, 0, none⟩)), (6, .int .i64 (zW size))]) g.1.1 g.1.2.1 g.1.2.2) (fun g => (fun (W1 : RS) (v1 : List Value) (C1 : qV) => [(b2, .cells v1.toArray 41 (0, 0))] :: [(b4, .cells node0V.toArray 41 (0, 0))] :: C1 :: F) g.1.1 g.1.2.1 g.1.2.2) ?_ ?_
    ·
     refine zY (Γ := {pΓ : (Bool) // (fun (b : Bool) => b = true ↔ (size < W.size ∧ size % 128 ≠ 0 ∧ (W.all (size / 128)).has = true)) pΓ}) (fun g => (fun (b : Bool) => [(1, .int .i64 size), (2, .pointer (some ⟨b2, 0, none⟩)), (4, .pointer (some ⟨b4, 0, none⟩)), (6, .int .i64 (zW size)), (36, .bool b)]) g.1) (fun g => (fun (b : Bool) => [(b2, .cells [.int .u32 W.num, .int .u32 W.ver, .int .i64 W.kind, .int .i64 W.size, .int .u32 W.time, .slice (some ⟨ba, 0, none⟩) 1064 1064, .slice (some ⟨bl, 0, none⟩) 32 32, .int .i64 W.sg.at_, .bool W.sg.stale, .int .i64 W.db.at_, .bool W.db.stale, .int .i64 W.self.at_, .bool W.self.stale, .slice pg W.gone.length cg].toArray 41 (0, 0))] :: [(b4, .cells node0V.toArray 41 (0, 0))] :: C :: F) g.1) ?_ ?_
     ·
      refine qK <| qA rfl <| q9 (qB rfl) <| q9 (qI rfl rfl) <| q9 (wJ rfl rfl) <| qA rfl <| qY (s := 23) rfl (fun hg6_4 => ?_) (fun hg6_4 => ?_)
      ·
       refine qD rfl rfl (qP rfl) <| qD rfl rfl (jz rfl rfl (by omega) (by omega)) <| qD rfl rfl (zE rfl rfl) <| q9 (qq rfl rfl) <| qA rfl <| qY (s := 28) rfl (fun hg6_9 => ?_) (fun hg6_9 => ?_)
       ·
        refine qD rfl rfl (qB rfl) <| qD rfl rfl (qI rfl rfl) <| qD rfl rfl (qP rfl) <| qD rfl rfl (jI rfl rfl (by omega)) <| qD rfl rfl (qx (j := Q) (off := Q * 131) rfl rfl hQ (by omega) (by simp)) ?_
        refine qD rfl rfl (wA rfl) <| qD rfl rfl (y0 (j := Q) (k := 0) (v := .bool (W.all (size / 128)).has) zh rfl (show (ba, Obj.cells ((z7 W.all).flatMap wz ++ []).toArray 125 (0, 0)) ∈ List.flatten _ by rw [hC]; simp) (yI (by omega)) rfl (by rw [hQ]; rfl)) ?_
        refine q9 (qq rfl rfl) <| qT <| qW ⟨_, ?_⟩ ?_
        · (try dsimp only); first | exact ⟨fun h => ⟨by omega, by omega, h⟩, fun h => h.2.2⟩ | exact ⟨fun h => (by cases h), fun h => by omega⟩
        · (try dsimp only); exact qX _
       ·
        refine qL rfl rfl rfl <| qL rfl rfl rfl <| qL rfl rfl rfl <| qL rfl rfl rfl <| qL rfl rfl rfl <| qL rfl rfl rfl <| qL rfl rfl rfl <| q9 (qU rfl rfl) <| qT <| qW ⟨_, ?_⟩ ?_
        · (try dsimp only); first | exact ⟨fun h => ⟨by omega, by omega, h⟩, fun h => h.2.2⟩ | exact ⟨fun h => (by cases h), fun h => by omega⟩
        · (try dsimp only); exact qX _
      ·
       refine qL rfl rfl rfl <| qL rfl rfl rfl <| qL rfl rfl rfl <| q9 (qU rfl rfl) <| qA rfl <| qL rfl rfl rfl <| qL rfl rfl rfl <| qL rfl rfl rfl <| qL rfl rfl rfl <| qL rfl rfl rfl <| qL rfl rfl rfl <| qL rfl rfl rfl <| q9 (qU rfl rfl) <| qT <| qW ⟨_, ?_⟩ ?_
       · (try dsimp only); first | exact ⟨fun h => ⟨by omega, by omega, h⟩, fun h => h.2.2⟩ | exact ⟨fun h => (by cases h), fun h => by omega⟩
       · (try dsimp only); exact qX _
     rintro ⟨b, hcut⟩
     replace hcut : b = true ↔ (size < W.size ∧ size % 128 ≠ 0 ∧ (W.all (size / 128)).has = true) := hcut
     have hb := hcut
     show Tr _ _ _ ([(1, .int .i64 size), (2, .pointer (some ⟨b2, 0, none⟩)), (4, .pointer (some ⟨b4, 0, none⟩)), (6, .int .i64 (zW size)), (36, .bool b)]) ([(b2, .cells [.int .u32 W.num, .int .u32 W.ver, .int .i64 W.kind, .int .i64 W.size, .int .u32 W.time, .slice (some ⟨ba, 0, none⟩) 1064 1064, .slice (some ⟨bl, 0, none⟩) 32 32, .int .i64 W.sg.at_, .bool W.sg.stale, .int .i64 W.db.at_, .bool W.db.stale, .int .i64 W.self.at_, .bool W.self.stale, .slice pg W.gone.length cg].toArray 41 (0, 0))] :: [(b4, .cells node0V.toArray 41 (0, 0))] :: C :: F) _ _
     refine yB rfl (fun hc5 => ?_) (fun hc5 => ?_)
     ·
      refine qN <| qN ?_
      have hc := hb.1 hc5
      refine yy (L' := [(b2, .cells [.int .u32 W.num, .int .u32 W.ver, .int .i64 W.kind, .int .i64 W.size, .int .u32 W.time, .slice (some ⟨ba, 0, none⟩) 1064 1064, .slice (some ⟨bl, 0, none⟩) 32 32, .int .i64 W.sg.at_, .bool W.sg.stale, .int .i64 W.db.at_, .bool W.db.stale, .int .i64 W.self.at_, .bool W.self.stale, .slice pg W.gone.length cg].toArray 41 (0, 0))] :: [(b4, .cells node0V.toArray 41 (0, 0))] :: [(ba, .cells ((z7 W.all).flatMap wz ++ []).toArray 125 (0, 0))] :: [(bl, .cells ((wN W.leaves).flatMap wy ++ []).toArray 38 (0, 0))] :: Cg :: F) (wZ (by rw [hC]; simp)) ?_
      refine qK <| qA rfl <| q9 (jz rfl rfl (by omega) (by omega)) <| qE rfl <| qT <| zN (L' := [(b2, .cells [.int .u32 W.num, .int .u32 W.ver, .int .i64 W.kind, .int .i64 W.size, .int .u32 W.time, .slice (some ⟨ba, 0, none⟩) 1064 1064, .slice (some ⟨bl, 0, none⟩) 32 32, .int .i64 W.sg.at_, .bool W.sg.stale, .int .i64 W.db.at_, .bool W.db.stale, .int .i64 W.self.at_, .bool W.self.stale, .slice pg W.gone.length cg].toArray 41 (0, 0))] :: [(b4, .cells node0V.toArray 41 (0, 0))] :: [(ba, .cells ((z7 (upd W.all (Q : Int) { W.all Q with s := yC (W.all Q).s r (List.replicate 0 0) })).flatMap wz ++ []).toArray 125 (0, 0))] :: [(bl, .cells ((wN W.leaves).flatMap wy ++ []).toArray 38 (0, 0))] :: Cg :: F) (yW (by rw [List.replicate_zero, XU _ (by omega)]; rw [show upd W.all (Q : Int) { W.all Q with s := (W.all Q).s } = W.all from upd_self W.all (Q : Int)])) ?_
      refine qJ <| qg <| wS (Γ := {pΓ : (Nat) × (Int) // (fun (t : Nat) (z : Int) => r + t ≤ 128 ∧ z = r + t) pΓ.1 pΓ.2}) (fun g => (fun (t : Nat) (z : Int) => [(1, .int .i64 size), (2, .pointer (some ⟨b2, 0, none⟩)), (4, .pointer (some ⟨b4, 0, none⟩)), (6, .int .i64 (zW size)), (7, .int .i64 z)]) g.1.1 g.1.2) (fun g => (fun (t : Nat) (z : Int) => [(b2, .cells [.int .u32 W.num, .int .u32 W.ver, .int .i64 W.kind, .int .i64 W.size, .int .u32 W.time, .slice (some ⟨ba, 0, none⟩) 1064 1064, .slice (some ⟨bl, 0, none⟩) 32 32, .int .i64 W.sg.at_, .bool W.sg.stale, .int .i64 W.db.at_, .bool W.db.stale, .int .i64 W.self.at_, .bool W.self.stale, .slice pg W.gone.length cg].toArray 41 (0, 0))] :: [(b4, .cells node0V.toArray 41 (0, 0))] :: [(ba, .cells ((z7 (upd W.all (Q : Int) { W.all Q with s := yC (W.all Q).s r (List.replicate t 0) })).flatMap wz ++ []).toArray 125 (0, 0))] :: [(bl, .cells ((wN W.leaves).flatMap wy ++ []).toArray 38 (0, 0))] :: Cg :: F) g.1.1 g.1.2) (fun g => (fun (t : Nat) (z : Int) => 128 - t) g.1.1 g.1.2) ⟨(0, size % 128), by dsimp only; exact ⟨by omega, by omega⟩⟩ (qX _) ?_
      rintro ⟨⟨t, z⟩, hloop⟩
      replace hloop : r + t ≤ 128 ∧ z = r + t := hloop
      obtain ⟨ht, hz⟩ := hloop
      show Tr _ _ _ ([(1, .int .i64 size), (2, .pointer (some ⟨b2, 0, none⟩)), (4, .pointer (some ⟨b4, 0, none⟩)), (6, .int .i64 (zW size)), (7, .int .i64 z)]) ([(b2, .cells [.int .u32 W.num, .int .u32 W.ver, .int .i64 W.kind, .int .i64 W.size, .int .u32 W.time, .slice (some ⟨ba, 0, none⟩) 1064 1064, .slice (some ⟨bl, 0, none⟩) 32 32, .int .i64 W.sg.at_, .bool W.sg.stale, .int .i64 W.db.at_, .bool W.db.stale, .int .i64 W.self.at_, .bool W.self.stale, .slice pg W.gone.length cg].toArray 41 (0, 0))] :: [(b4, .cells node0V.toArray 41 (0, 0))] :: [(ba, .cells ((z7 (upd W.all (Q : Int) { W.all Q with s := yC (W.all Q).s r (List.replicate t 0) })).flatMap wz ++ []).toArray 125 (0, 0))] :: [(bl, .cells ((wN W.leaves).flatMap wy ++ []).toArray 38 (0, 0))] :: Cg :: F) _ _
      refine qN <| qO <| qA rfl <| q9 (wJ rfl rfl) <| qF <| qM rfl (fun hc8 => ?_) (fun hc8 => ?_)
      ·
       refine qZ <| qJ <| qN <| qg <| qK <| q9 (qB rfl) <| q9 (qI rfl rfl) <| qA rfl <| q9 (jI rfl rfl (by omega)) <| qA rfl <| q9 (qx (j := Q) (off := Q * 131) rfl rfl hQ (by omega) (by simp)) ?_
       refine q9 (wA rfl) <| q9 (wj (j := r + t) (off := Q * 131 + 3 + (r + t) * 1) rfl rfl (by omega) (by omega) (by simp)) ?_
       refine qR (yU (j := Q) (k := 3 + (r + t) * 1) (p' := { W.all Q with s := yC (W.all Q).s r (List.replicate (t + 1) 0) }) zh rfl rfl (by rw [yI (by omega), zQ]) (by omega) (blk_zero_step (W.all Q) r t (by omega)) rfl (by rw [Nat.blt_eq]; omega)) ?_
       refine qT <| qe <| qJ <| qK <| qA rfl <| q9 (w9 rfl rfl (by omega)) <| qE rfl <| qT <| w6 ⟨(t + 1, _), ?_⟩ ?_ ?_
       · (try dsimp only); exact ⟨by omega, by omega⟩
       · (try dsimp only); omega
       · (try dsimp only); exact yW (by rw [show ∀ (f : Int → Blk) (b : Blk), (z7 f).set Q b = z7 (upd f (Q : Int) b) from fun _ _ => zo, Jk])
      ·
       refine wa <| qr <| qt <| qh <| qJ ?_
       have ht2 : t = 128 - r := by omega
       subst ht2
       refine qK <| q9 (qB rfl) <| q9 (qI rfl rfl) <| qA rfl <| q9 (jI rfl rfl (by omega)) <| q9 (qx (j := Q) (off := Q * 131) rfl rfl hQ (by omega) (by simp)) ?_
       refine q9 (wA rfl) <| qR (yU (j := Q) (k := 2) (p := { W.all Q with s := yC (W.all Q).s r (List.replicate (128 - r) 0) }) (p' := YL (W.all Q) r) zh rfl rfl (by rw [yI (by omega), zQ]) rfl rfl rfl) ?_
       refine qT <| qW ⟨({ W with all := upd W.all (Q : Int) (YL (W.all Q) r) }, [.int .u32 W.num, .int .u32 W.ver, .int .i64 W.kind, .int .i64 W.size, .int .u32 W.time, .slice (some ⟨ba, 0, none⟩) 1064 1064, .slice (some ⟨bl, 0, none⟩) 32 32, .int .i64 W.sg.at_, .bool W.sg.stale, .int .i64 W.db.at_, .bool W.db.stale, .int .i64 W.self.at_, .bool W.self.stale, .slice pg W.gone.length cg], (ba, .cells ((z7 (upd W.all (Q : Int) (YL (W.all Q) r))).flatMap wz ++ []).toArray 125 (0, 0)) :: (bl, .cells ((wN W.leaves).flatMap wy ++ []).toArray 38 (0, 0)) :: Cg), ?_⟩ ?_
       · (try dsimp only); exact ⟨⟨_, Cg, rfl, hs, rfl⟩, by unfold ym; rw [if_pos hc, hQ, hr, Int.toNat_natCast], hgl⟩
       · (try dsimp only); exact (by rw [show ∀ (f : Int → Blk) (b : Blk), (z7 f).set Q b = z7 (upd f (Q : Int) b) from fun _ _ => zo, Jk]; exact wZ (by simp))
     ·
      refine qZ <| qW ⟨(W, [.int .u32 W.num, .int .u32 W.ver, .int .i64 W.kind, .int .i64 W.size, .int .u32 W.time, .slice (some ⟨ba, 0, none⟩) 1064 1064, .slice (some ⟨bl, 0, none⟩) 32 32, .int .i64 W.sg.at_, .bool W.sg.stale, .int .i64 W.db.at_, .bool W.db.stale, .int .i64 W.self.at_, .bool W.self.stale, .slice pg W.gone.length cg], C), ?_⟩ ?_
      · (try dsimp only); exact ⟨hw, by unfold ym; rw [if_neg (fun h => by rw [hb.2 h] at hc5; cases hc5)], hgl⟩
      · (try dsimp only); exact qX _
    rintro ⟨⟨W1, v1, C1⟩, hcut⟩
    replace hcut : RefC ba bl W1 v1 C1 ∧ W1 = ym W size ∧ W1.gone.length ≤ 800000 := hcut
    obtain ⟨hw1, hW1, hgl1⟩ := hcut
    show Tr _ _ _ ([(1, .int .i64 size), (2, .pointer (some ⟨b2, 0, none⟩)), (4, .pointer (some ⟨b4, 0, none⟩)), (6, .int .i64 (zW size))]) ([(b2, .cells v1.toArray 41 (0, 0))] :: [(b4, .cells node0V.toArray 41 (0, 0))] :: C1 :: F) _ _
    refine qO <| qE rfl <| qF <| qN <| qN ?_
    have hbd := YN (s := size) (by omega)
    obtain ⟨bz, hbz⟩ : ∃ bz : Nat, zW size = bz := ⟨(zW size).toNat, by omega⟩
    have htr : k7 W1 size = ((zu 1064).drop bz).foldl yq (W1, false) := by unfold k7; rw [hbz]; rfl
    refine qK <| qA rfl <| qE rfl <| qF <| qg <| wS (Γ := {pΓ : (Nat) × (RS) × (List Value) × (qV) × (Bool) × (Int) // (fun (i : Nat) (w : RS) (v : List Value) (C : qV) (lost : Bool) (z : Int) => i ≤ 1064 ∧ RefC ba bl w v C ∧ w.gone.length ≤ 800000 + i ∧ ((zu 1064).drop i).foldl yq (w, lost) = k7 W1 size ∧ z = i) pΓ.1 pΓ.2.1 pΓ.2.2.1 pΓ.2.2.2.1 pΓ.2.2.2.2.1 pΓ.2.2.2.2.2}) (fun g => (fun (i : Nat) (w : RS) (v : List Value) (C : qV) (lost : Bool) (z : Int) => [(1, .int .i64 size), (2, .pointer (some ⟨b2, 0, none⟩)), (4, .pointer (some ⟨b4, 0, none⟩)), (8, .bool lost), (9, .int .i64 z)]) g.1.1 g.1.2.1 g.1.2.2.1 g.1.2.2.2.1 g.1.2.2.2.2.1 g.1.2.2.2.2.2) (fun g => (fun (i : Nat) (w : RS) (v : List Value) (C : qV) (lost : Bool) (z : Int) => [(b2, .cells v.toArray 41 (0, 0))] :: [(b4, .cells node0V.toArray 41 (0, 0))] :: C :: F) g.1.1 g.1.2.1 g.1.2.2.1 g.1.2.2.2.1 g.1.2.2.2.2.1 g.1.2.2.2.2.2) (fun g => (fun (i : Nat) (w : RS) (v : List Value) (C : qV) (lost : Bool) (z : Int) => 1064 - i) g.1.1 g.1.2.1 g.1.2.2.1 g.1.2.2.2.1 g.1.2.2.2.2.1 g.1.2.2.2.2.2) ⟨(bz, W1, v1, C1, false, zW size), by dsimp only; exact ⟨by omega, hw1, by omega, htr.symm, hbz⟩⟩ (qX _) ?_
    rintro ⟨⟨i, w, v, C, lost, z⟩, hloop⟩
    replace hloop : i ≤ 1064 ∧ RefC ba bl w v C ∧ w.gone.length ≤ 800000 + i ∧ ((zu 1064).drop i).foldl yq (w, lost) = k7 W1 size ∧ z = i := hloop
    obtain ⟨hi, hR, hglw, hfold, hz⟩ := hloop
    show Tr _ _ _ ([(1, .int .i64 size), (2, .pointer (some ⟨b2, 0, none⟩)), (4, .pointer (some ⟨b4, 0, none⟩)), (8, .bool lost), (9, .int .i64 z)]) ([(b2, .cells v.toArray 41 (0, 0))] :: [(b4, .cells node0V.toArray 41 (0, 0))] :: C :: F) _ _
    refine qN <| qO <| qA rfl <| q9 (wJ rfl rfl) <| qF <| qM rfl (fun hc14 => ?_) (fun hc14 => ?_)
    ·
     refine qZ <| qJ <| qN <| qg <| qN ?_
     subst hz
     obtain ⟨pg', cg', Cg', hv, hs', hC'⟩ := hR.at
     rw [kJ (jP (by omega)), List.foldl_cons, yq] at hfold
     refine qK <| q9 (qB rfl) <| q9 (qI rfl (show wY v 5 = some (.slice (some ⟨ba, 0, none⟩) 1064 1064) by rw [hv]; rfl)) <| qA rfl <| q9 (qx (j := i) (off := i * 131) rfl rfl rfl (by omega) (by simp)) ?_
     refine q9 (wA rfl) <| q9 (y0 (j := i) (k := 0) (v := .bool (w.all i).has) zh rfl (show (ba, Obj.cells ((z7 w.all).flatMap wz ++ []).toArray 125 (0, 0)) ∈ List.flatten _ by rw [hC']; simp) (yI (by omega)) rfl rfl) <| qF <| yB rfl (fun hc16 => ?_) (fun hc16 => ?_)
     ·
      refine qO <| q9 (wQ rfl hR.len) <| qA rfl <| qG (w5 rfl (we (C) (rhole_ok w v C hR i (by omega) (by omega)))) ?_
      rintro t70 _ ⟨l', C'', rfl, hR', rfl⟩
      refine qR (qo rfl rfl hR.len hR'.len hR'.one) <| qF <| qK <| qE rfl <| qT <| qe <| qJ <| qK <| qA rfl <| q9 (w9 rfl rfl (by omega)) <| qE rfl <| qT <| w6 ⟨(i + 1, xQ w i, l', C'', true, _), ?_⟩ ?_ ?_
      · (try dsimp only); rw [if_pos hc16] at hfold; exact ⟨by omega, hR', by have := holeR_gone w i; omega, hfold, by omega⟩
      · (try dsimp only); omega
      · (try dsimp only); exact qX _
     ·
      refine qZ <| qe <| qJ <| qK <| qA rfl <| q9 (w9 rfl rfl (by omega)) <| qE rfl <| qT <| w6 ⟨(i + 1, w, v, C, lost, _), ?_⟩ ?_ ?_
      · (try dsimp only); rw [if_neg (by rw [hc16]; simp)] at hfold; exact ⟨by omega, hR, by omega, hfold, by omega⟩
      · (try dsimp only); omega
      · (try dsimp only); exact qX _
    ·
     refine wa <| qr <| qt <| qh <| qJ <| zY (Γ := {pΓ : (RS) × (List Value) × (qV) // (fun (w2 : RS) (v2 : List Value) (C2 : qV) => RefC ba bl w2 v2 C2 ∧ w2 = Zc (k7 W1 size)) pΓ.1 pΓ.2.1 pΓ.2.2}) (fun g => (fun (w2 : RS) (v2 : List Value) (C2 : qV) => [(1, .int .i64 size), (2, .pointer (some ⟨b2, 0, none⟩)), (4, .pointer (some ⟨b4, 0, none⟩))]) g.1.1 g.1.2.1 g.1.2.2) (fun g => (fun (w2 : RS) (v2 : List Value) (C2 : qV) => [(b2, .cells v2.toArray 41 (0, 0))] :: [(b4, .cells node0V.toArray 41 (0, 0))] :: C2 :: F) g.1.1 g.1.2.1 g.1.2.2) ?_ ?_
     ·
      refine qN ?_
      rw [List.drop_of_length_le (by rw [xE]; omega), List.foldl_nil] at hfold
      refine qK <| qA rfl <| qF <| yB rfl (fun hc19 => ?_) (fun hc19 => ?_)
      ·
       refine qN <| qO <| qE rfl <| qF <| qg <| wS (Γ := {pΓ : (Nat) × (RS) × (List Value) × (qV) × (Int) // (fun (k : Nat) (w' : RS) (v : List Value) (C : qV) (z : Int) => k ≤ 32 ∧ RefC ba bl w' v C ∧ w'.gone.length ≤ 802000 + k ∧ ((zu 32).drop k).foldl wd w' = (zu 32).foldl wd w ∧ z = k) pΓ.1 pΓ.2.1 pΓ.2.2.1 pΓ.2.2.2.1 pΓ.2.2.2.2}) (fun g => (fun (k : Nat) (w' : RS) (v : List Value) (C : qV) (z : Int) => [(1, .int .i64 size), (2, .pointer (some ⟨b2, 0, none⟩)), (4, .pointer (some ⟨b4, 0, none⟩)), (10, .int .i64 z)]) g.1.1 g.1.2.1 g.1.2.2.1 g.1.2.2.2.1 g.1.2.2.2.2) (fun g => (fun (k : Nat) (w' : RS) (v : List Value) (C : qV) (z : Int) => [(b2, .cells v.toArray 41 (0, 0))] :: [(b4, .cells node0V.toArray 41 (0, 0))] :: C :: F) g.1.1 g.1.2.1 g.1.2.2.1 g.1.2.2.2.1 g.1.2.2.2.2) (fun g => (fun (k : Nat) (w' : RS) (v : List Value) (C : qV) (z : Int) => 32 - k) g.1.1 g.1.2.1 g.1.2.2.1 g.1.2.2.2.1 g.1.2.2.2.2) ⟨(0, w, v, C, 0), by dsimp only; exact ⟨by omega, hR, by omega, rfl, rfl⟩⟩ (qX _) ?_
       rintro ⟨⟨k, w', v, C, z⟩, hloop⟩
       replace hloop : k ≤ 32 ∧ RefC ba bl w' v C ∧ w'.gone.length ≤ 802000 + k ∧ ((zu 32).drop k).foldl wd w' = (zu 32).foldl wd w ∧ z = k := hloop
       obtain ⟨hk, hR2, hgl2, hfold2, hz2⟩ := hloop
       show Tr _ _ _ ([(1, .int .i64 size), (2, .pointer (some ⟨b2, 0, none⟩)), (4, .pointer (some ⟨b4, 0, none⟩)), (10, .int .i64 z)]) ([(b2, .cells v.toArray 41 (0, 0))] :: [(b4, .cells node0V.toArray 41 (0, 0))] :: C :: F) _ _
       refine qN <| qO <| qA rfl <| q9 (wJ rfl rfl) <| qF <| qM rfl (fun hc21 => ?_) (fun hc21 => ?_)
       ·
        refine qZ <| qJ <| zY (Γ := {pΓ : (RS) × (List Value) × (qV) // (fun (w3 : RS) (v3 : List Value) (C3 : qV) => RefC ba bl w3 v3 C3 ∧ w3 = wd w' k ∧ w3.gone.length ≤ 802001 + k) pΓ.1 pΓ.2.1 pΓ.2.2}) (fun g => (fun (w3 : RS) (v3 : List Value) (C3 : qV) => [(1, .int .i64 size), (2, .pointer (some ⟨b2, 0, none⟩)), (4, .pointer (some ⟨b4, 0, none⟩)), (10, .int .i64 k)]) g.1.1 g.1.2.1 g.1.2.2) (fun g => (fun (w3 : RS) (v3 : List Value) (C3 : qV) => [(b2, .cells v3.toArray 41 (0, 0))] :: [(b4, .cells node0V.toArray 41 (0, 0))] :: C3 :: F) g.1.1 g.1.2.1 g.1.2.2) ?_ ?_
        ·
         refine qg <| qN ?_
         subst hz2
         obtain ⟨pg', cg', Cg', hv, hs', hC'⟩ := hR2.at
         rw [kJ (jP (by omega)), List.foldl_cons, wd] at hfold2
         refine qK <| q9 (wQ rfl hR2.len) <| qA rfl <| q9 (wM rfl (zk (C) (jO w' v C hR2 2 k))) <| q9 (kX rfl) <| qF <| yB rfl (fun hc23 => ?_) (fun hc23 => ?_)
         ·
          refine yb wB (show TrS _ _ _ _ [false, false, false, false, false, false, false, false, false, false, false, false, false, false, false, false] _ _ _ from ?_)
          refine qH 0 rfl rfl rfl (wo rfl) <| qH 2 rfl rfl rfl (wO rfl) <| qH 4 rfl rfl rfl (wo rfl) <| qH 6 rfl rfl rfl (wO rfl) <| xu (i := 1) (j := 3) (k := 5) (by kernel_rfl) rfl ?_ ?_ ?_
          ·
           refine qd rfl rfl rfl (qI rfl (show wY v 6 = some (.slice (some ⟨bl, 0, none⟩) 32 32) by rw [hv]; rfl)) <| wv (i := 3) (j := 5) (by kernel_rfl) rfl ?_ ?_
           ·
            refine qd rfl rfl rfl (wQ rfl hR2.len) <| qS 5 rfl <| qd rfl rfl rfl (qI rfl (show wY v 6 = some (.slice (some ⟨bl, 0, none⟩) 32 32) by rw [hv]; rfl)) <| qH 7 rfl rfl rfl (ws (j := k) (off := k * 2) rfl rfl rfl (by omega) (by simp)) ?_
            refine qS 8 rfl <| qd rfl rfl rfl (zg (j := k) zV rfl (show (bl, Obj.cells ((wN w'.leaves).flatMap wy ++ []).toArray 38 (0, 0)) ∈ List.flatten _ by rw [hC']; simp) (zF (by omega)) rfl) <| qS 9 rfl <| w7 rfl rfl rfl (w5 rfl (we (C) (yn w' v C hR2 (w'.leaves k) (by omega)))) ?_
            rintro t90 _ ⟨l', C'', rfl, hR', rfl⟩
            refine qH 10 rfl rfl rfl (wO rfl) <| qH 11 rfl rfl rfl (qk rfl rfl) <| qH 12 rfl rfl rfl (qk rfl rfl) <| qS 13 rfl <| wR rfl rfl rfl (qo rfl rfl hR2.len hR'.len hR'.one) ?_
            obtain ⟨pg2, cg2, Cg2, hv2, hs2, hC2⟩ := hR'.at
            rw [zx] at hC2
            refine kw (L' := [(b2, .cells l'.toArray 41 (0, 0))] :: [(b4, .cells node0V.toArray 41 (0, 0))] :: [(ba, .cells ((z7 (yH w' (w'.leaves k)).all).flatMap wz ++ []).toArray 125 (0, 0))] :: [(bl, .cells ((wN w'.leaves).flatMap wy ++ []).toArray 38 (0, 0))] :: Cg2 :: F) (by rw [hC2]; exact (yj (by intro f; simp only [List.flatten_cons, List.flatten_nil, List.append_nil, List.countP_append, List.countP_cons, List.countP_nil]; omega))) ?_
            refine qH 14 rfl rfl rfl (ws (j := k) (off := k * 2) rfl rfl rfl (by omega) (by simp)) ?_
            refine qS 15 rfl <| wR rfl rfl rfl (zH (j := k) (p' := ⟨0, false⟩) zV rfl rfl rfl (zF (by omega)) rfl rfl) <| wF <| qe <| qW ⟨(wd w' k, l', (ba, .cells ((z7 (yH w' (w'.leaves k)).all).flatMap wz ++ []).toArray 125 (0, 0)) :: (bl, .cells ((wN (upd w'.leaves k ⟨0, false⟩)).flatMap wy ++ []).toArray 38 (0, 0)) :: Cg2), ?_⟩ ?_
            ·
             try dsimp only
             have hkf : ¬ yE w' 2 k = true := by simpa using hc23
             refine ⟨?_, rfl, ?_⟩
             · unfold wd; rw [if_neg hkf]; exact ⟨_, Cg2, hv2, hs2, rfl⟩
             · unfold wd; rw [if_neg hkf]; have := yK w' (w'.leaves k); dsimp only; omega
            · (try dsimp only); exact (by rw [show ∀ (f : Int → yF) (b : yF), (wN f).set k b = wN (upd f (k : Int) b) from fun _ _ => zo]; exact wZ (by simp))
           ·
            refine qd rfl rfl rfl (qI rfl (show wY v 6 = some (.slice (some ⟨bl, 0, none⟩) 32 32) by rw [hv]; rfl)) <| qH 7 rfl rfl rfl (ws (j := k) (off := k * 2) rfl rfl rfl (by omega) (by simp)) ?_
            refine wv (i := 3) (j := 8) (by kernel_rfl) rfl ?_ ?_
            ·
             refine qd rfl rfl rfl (wQ rfl hR2.len) <| qS 8 rfl <| qd rfl rfl rfl (zg (j := k) zV rfl (show (bl, Obj.cells ((wN w'.leaves).flatMap wy ++ []).toArray 38 (0, 0)) ∈ List.flatten _ by rw [hC']; simp) (zF (by omega)) rfl) <| qS 9 rfl <| w7 rfl rfl rfl (w5 rfl (we (C) (yn w' v C hR2 (w'.leaves k) (by omega)))) ?_
             rintro t90 _ ⟨l', C'', rfl, hR', rfl⟩
             refine qH 10 rfl rfl rfl (wO rfl) <| qH 11 rfl rfl rfl (qk rfl rfl) <| qH 12 rfl rfl rfl (qk rfl rfl) <| qS 13 rfl <| wR rfl rfl rfl (qo rfl rfl hR2.len hR'.len hR'.one) ?_
             obtain ⟨pg2, cg2, Cg2, hv2, hs2, hC2⟩ := hR'.at
             rw [zx] at hC2
             refine kw (L' := [(b2, .cells l'.toArray 41 (0, 0))] :: [(b4, .cells node0V.toArray 41 (0, 0))] :: [(ba, .cells ((z7 (yH w' (w'.leaves k)).all).flatMap wz ++ []).toArray 125 (0, 0))] :: [(bl, .cells ((wN w'.leaves).flatMap wy ++ []).toArray 38 (0, 0))] :: Cg2 :: F) (by rw [hC2]; exact (yj (by intro f; simp only [List.flatten_cons, List.flatten_nil, List.append_nil, List.countP_append, List.countP_cons, List.countP_nil]; omega))) ?_
             refine qH 14 rfl rfl rfl (ws (j := k) (off := k * 2) rfl rfl rfl (by omega) (by simp)) ?_
             refine qS 15 rfl <| wR rfl rfl rfl (zH (j := k) (p' := ⟨0, false⟩) zV rfl rfl rfl (zF (by omega)) rfl rfl) <| wF <| qe <| qW ⟨(wd w' k, l', (ba, .cells ((z7 (yH w' (w'.leaves k)).all).flatMap wz ++ []).toArray 125 (0, 0)) :: (bl, .cells ((wN (upd w'.leaves k ⟨0, false⟩)).flatMap wy ++ []).toArray 38 (0, 0)) :: Cg2), ?_⟩ ?_
             ·
              try dsimp only
              have hkf : ¬ yE w' 2 k = true := by simpa using hc23
              refine ⟨?_, rfl, ?_⟩
              · unfold wd; rw [if_neg hkf]; exact ⟨_, Cg2, hv2, hs2, rfl⟩
              · unfold wd; rw [if_neg hkf]; have := yK w' (w'.leaves k); dsimp only; omega
             · (try dsimp only); exact (by rw [show ∀ (f : Int → yF) (b : yF), (wN f).set k b = wN (upd f (k : Int) b) from fun _ _ => zo]; exact wZ (by simp))
            ·
             refine qd rfl rfl rfl (zg (j := k) zV rfl (show (bl, Obj.cells ((wN w'.leaves).flatMap wy ++ []).toArray 38 (0, 0)) ∈ List.flatten _ by rw [hC']; simp) (zF (by omega)) rfl) <| qS 3 rfl <| qd rfl rfl rfl (wQ rfl hR2.len) <| qS 9 rfl <| w7 rfl rfl rfl (w5 rfl (we (C) (yn w' v C hR2 (w'.leaves k) (by omega)))) ?_
             rintro t90 _ ⟨l', C'', rfl, hR', rfl⟩
             refine qH 10 rfl rfl rfl (wO rfl) <| qH 11 rfl rfl rfl (qk rfl rfl) <| qH 12 rfl rfl rfl (qk rfl rfl) <| qS 13 rfl <| wR rfl rfl rfl (qo rfl rfl hR2.len hR'.len hR'.one) ?_
             obtain ⟨pg2, cg2, Cg2, hv2, hs2, hC2⟩ := hR'.at
             rw [zx] at hC2
             refine kw (L' := [(b2, .cells l'.toArray 41 (0, 0))] :: [(b4, .cells node0V.toArray 41 (0, 0))] :: [(ba, .cells ((z7 (yH w' (w'.leaves k)).all).flatMap wz ++ []).toArray 125 (0, 0))] :: [(bl, .cells ((wN w'.leaves).flatMap wy ++ []).toArray 38 (0, 0))] :: Cg2 :: F) (by rw [hC2]; exact (yj (by intro f; simp only [List.flatten_cons, List.flatten_nil, List.append_nil, List.countP_append, List.countP_cons, List.countP_nil]; omega))) ?_
             refine qH 14 rfl rfl rfl (ws (j := k) (off := k * 2) rfl rfl rfl (by omega) (by simp)) ?_
             refine qS 15 rfl <| wR rfl rfl rfl (zH (j := k) (p' := ⟨0, false⟩) zV rfl rfl rfl (zF (by omega)) rfl rfl) <| wF <| qe <| qW ⟨(wd w' k, l', (ba, .cells ((z7 (yH w' (w'.leaves k)).all).flatMap wz ++ []).toArray 125 (0, 0)) :: (bl, .cells ((wN (upd w'.leaves k ⟨0, false⟩)).flatMap wy ++ []).toArray 38 (0, 0)) :: Cg2), ?_⟩ ?_
             ·
              try dsimp only
              have hkf : ¬ yE w' 2 k = true := by simpa using hc23
              refine ⟨?_, rfl, ?_⟩
              · unfold wd; rw [if_neg hkf]; exact ⟨_, Cg2, hv2, hs2, rfl⟩
              · unfold wd; rw [if_neg hkf]; have := yK w' (w'.leaves k); dsimp only; omega
             · (try dsimp only); exact (by rw [show ∀ (f : Int → yF) (b : yF), (wN f).set k b = wN (upd f (k : Int) b) from fun _ _ => zo]; exact wZ (by simp))
          ·
           refine qd rfl rfl rfl (wQ rfl hR2.len) <| wv (i := 1) (j := 5) (by kernel_rfl) rfl ?_ ?_
           ·
            refine qd rfl rfl rfl (qI rfl (show wY v 6 = some (.slice (some ⟨bl, 0, none⟩) 32 32) by rw [hv]; rfl)) <| qS 5 rfl <| qd rfl rfl rfl (qI rfl (show wY v 6 = some (.slice (some ⟨bl, 0, none⟩) 32 32) by rw [hv]; rfl)) <| qH 7 rfl rfl rfl (ws (j := k) (off := k * 2) rfl rfl rfl (by omega) (by simp)) ?_
            refine qS 8 rfl <| qd rfl rfl rfl (zg (j := k) zV rfl (show (bl, Obj.cells ((wN w'.leaves).flatMap wy ++ []).toArray 38 (0, 0)) ∈ List.flatten _ by rw [hC']; simp) (zF (by omega)) rfl) <| qS 9 rfl <| w7 rfl rfl rfl (w5 rfl (we (C) (yn w' v C hR2 (w'.leaves k) (by omega)))) ?_
            rintro t90 _ ⟨l', C'', rfl, hR', rfl⟩
            refine qH 10 rfl rfl rfl (wO rfl) <| qH 11 rfl rfl rfl (qk rfl rfl) <| qH 12 rfl rfl rfl (qk rfl rfl) <| qS 13 rfl <| wR rfl rfl rfl (qo rfl rfl hR2.len hR'.len hR'.one) ?_
            obtain ⟨pg2, cg2, Cg2, hv2, hs2, hC2⟩ := hR'.at
            rw [zx] at hC2
            refine kw (L' := [(b2, .cells l'.toArray 41 (0, 0))] :: [(b4, .cells node0V.toArray 41 (0, 0))] :: [(ba, .cells ((z7 (yH w' (w'.leaves k)).all).flatMap wz ++ []).toArray 125 (0, 0))] :: [(bl, .cells ((wN w'.leaves).flatMap wy ++ []).toArray 38 (0, 0))] :: Cg2 :: F) (by rw [hC2]; exact (yj (by intro f; simp only [List.flatten_cons, List.flatten_nil, List.append_nil, List.countP_append, List.countP_cons, List.countP_nil]; omega))) ?_
            refine qH 14 rfl rfl rfl (ws (j := k) (off := k * 2) rfl rfl rfl (by omega) (by simp)) ?_
            refine qS 15 rfl <| wR rfl rfl rfl (zH (j := k) (p' := ⟨0, false⟩) zV rfl rfl rfl (zF (by omega)) rfl rfl) <| wF <| qe <| qW ⟨(wd w' k, l', (ba, .cells ((z7 (yH w' (w'.leaves k)).all).flatMap wz ++ []).toArray 125 (0, 0)) :: (bl, .cells ((wN (upd w'.leaves k ⟨0, false⟩)).flatMap wy ++ []).toArray 38 (0, 0)) :: Cg2), ?_⟩ ?_
            ·
             try dsimp only
             have hkf : ¬ yE w' 2 k = true := by simpa using hc23
             refine ⟨?_, rfl, ?_⟩
             · unfold wd; rw [if_neg hkf]; exact ⟨_, Cg2, hv2, hs2, rfl⟩
             · unfold wd; rw [if_neg hkf]; have := yK w' (w'.leaves k); dsimp only; omega
            · (try dsimp only); exact (by rw [show ∀ (f : Int → yF) (b : yF), (wN f).set k b = wN (upd f (k : Int) b) from fun _ _ => zo]; exact wZ (by simp))
           ·
            refine qd rfl rfl rfl (qI rfl (show wY v 6 = some (.slice (some ⟨bl, 0, none⟩) 32 32) by rw [hv]; rfl)) <| qH 7 rfl rfl rfl (ws (j := k) (off := k * 2) rfl rfl rfl (by omega) (by simp)) ?_
            refine wv (i := 1) (j := 8) (by kernel_rfl) rfl ?_ ?_
            ·
             refine qd rfl rfl rfl (qI rfl (show wY v 6 = some (.slice (some ⟨bl, 0, none⟩) 32 32) by rw [hv]; rfl)) <| qS 8 rfl <| qd rfl rfl rfl (zg (j := k) zV rfl (show (bl, Obj.cells ((wN w'.leaves).flatMap wy ++ []).toArray 38 (0, 0)) ∈ List.flatten _ by rw [hC']; simp) (zF (by omega)) rfl) <| qS 9 rfl <| w7 rfl rfl rfl (w5 rfl (we (C) (yn w' v C hR2 (w'.leaves k) (by omega)))) ?_
             rintro t90 _ ⟨l', C'', rfl, hR', rfl⟩
             refine qH 10 rfl rfl rfl (wO rfl) <| qH 11 rfl rfl rfl (qk rfl rfl) <| qH 12 rfl rfl rfl (qk rfl rfl) <| qS 13 rfl <| wR rfl rfl rfl (qo rfl rfl hR2.len hR'.len hR'.one) ?_
             obtain ⟨pg2, cg2, Cg2, hv2, hs2, hC2⟩ := hR'.at
             rw [zx] at hC2
             refine kw (L' := [(b2, .cells l'.toArray 41 (0, 0))] :: [(b4, .cells node0V.toArray 41 (0, 0))] :: [(ba, .cells ((z7 (yH w' (w'.leaves k)).all).flatMap wz ++ []).toArray 125 (0, 0))] :: [(bl, .cells ((wN w'.leaves).flatMap wy ++ []).toArray 38 (0, 0))] :: Cg2 :: F) (by rw [hC2]; exact (yj (by intro f; simp only [List.flatten_cons, List.flatten_nil, List.append_nil, List.countP_append, List.countP_cons, List.countP_nil]; omega))) ?_
             refine qH 14 rfl rfl rfl (ws (j := k) (off := k * 2) rfl rfl rfl (by omega) (by simp)) ?_
             refine qS 15 rfl <| wR rfl rfl rfl (zH (j := k) (p' := ⟨0, false⟩) zV rfl rfl rfl (zF (by omega)) rfl rfl) <| wF <| qe <| qW ⟨(wd w' k, l', (ba, .cells ((z7 (yH w' (w'.leaves k)).all).flatMap wz ++ []).toArray 125 (0, 0)) :: (bl, .cells ((wN (upd w'.leaves k ⟨0, false⟩)).flatMap wy ++ []).toArray 38 (0, 0)) :: Cg2), ?_⟩ ?_
             ·
              try dsimp only
              have hkf : ¬ yE w' 2 k = true := by simpa using hc23
              refine ⟨?_, rfl, ?_⟩
              · unfold wd; rw [if_neg hkf]; exact ⟨_, Cg2, hv2, hs2, rfl⟩
              · unfold wd; rw [if_neg hkf]; have := yK w' (w'.leaves k); dsimp only; omega
             · (try dsimp only); exact (by rw [show ∀ (f : Int → yF) (b : yF), (wN f).set k b = wN (upd f (k : Int) b) from fun _ _ => zo]; exact wZ (by simp))
            ·
             refine qd rfl rfl rfl (zg (j := k) zV rfl (show (bl, Obj.cells ((wN w'.leaves).flatMap wy ++ []).toArray 38 (0, 0)) ∈ List.flatten _ by rw [hC']; simp) (zF (by omega)) rfl) <| wv (i := 1) (j := 9) (by kernel_rfl) rfl ?_ ?_
             ·
              refine qd rfl rfl rfl (qI rfl (show wY v 6 = some (.slice (some ⟨bl, 0, none⟩) 32 32) by rw [hv]; rfl)) <| qS 9 rfl <| w7 rfl rfl rfl (w5 rfl (we (C) (yn w' v C hR2 (w'.leaves k) (by omega)))) ?_
              rintro t90 _ ⟨l', C'', rfl, hR', rfl⟩
              refine qH 10 rfl rfl rfl (wO rfl) <| qH 11 rfl rfl rfl (qk rfl rfl) <| qH 12 rfl rfl rfl (qk rfl rfl) <| qS 13 rfl <| wR rfl rfl rfl (qo rfl rfl hR2.len hR'.len hR'.one) ?_
              obtain ⟨pg2, cg2, Cg2, hv2, hs2, hC2⟩ := hR'.at
              rw [zx] at hC2
              refine kw (L' := [(b2, .cells l'.toArray 41 (0, 0))] :: [(b4, .cells node0V.toArray 41 (0, 0))] :: [(ba, .cells ((z7 (yH w' (w'.leaves k)).all).flatMap wz ++ []).toArray 125 (0, 0))] :: [(bl, .cells ((wN w'.leaves).flatMap wy ++ []).toArray 38 (0, 0))] :: Cg2 :: F) (by rw [hC2]; exact (yj (by intro f; simp only [List.flatten_cons, List.flatten_nil, List.append_nil, List.countP_append, List.countP_cons, List.countP_nil]; omega))) ?_
              refine qH 14 rfl rfl rfl (ws (j := k) (off := k * 2) rfl rfl rfl (by omega) (by simp)) ?_
              refine qS 15 rfl <| wR rfl rfl rfl (zH (j := k) (p' := ⟨0, false⟩) zV rfl rfl rfl (zF (by omega)) rfl rfl) <| wF <| qe <| qW ⟨(wd w' k, l', (ba, .cells ((z7 (yH w' (w'.leaves k)).all).flatMap wz ++ []).toArray 125 (0, 0)) :: (bl, .cells ((wN (upd w'.leaves k ⟨0, false⟩)).flatMap wy ++ []).toArray 38 (0, 0)) :: Cg2), ?_⟩ ?_
              ·
               try dsimp only
               have hkf : ¬ yE w' 2 k = true := by simpa using hc23
               refine ⟨?_, rfl, ?_⟩
               · unfold wd; rw [if_neg hkf]; exact ⟨_, Cg2, hv2, hs2, rfl⟩
               · unfold wd; rw [if_neg hkf]; have := yK w' (w'.leaves k); dsimp only; omega
              · (try dsimp only); exact (by rw [show ∀ (f : Int → yF) (b : yF), (wN f).set k b = wN (upd f (k : Int) b) from fun _ _ => zo]; exact wZ (by simp))
             ·
              refine w7 rfl rfl rfl (w5 rfl (we (C) (yn w' v C hR2 (w'.leaves k) (by omega)))) ?_
              rintro t90 _ ⟨l', C'', rfl, hR', rfl⟩
              refine qH 10 rfl rfl rfl (wO rfl) <| qH 11 rfl rfl rfl (qk rfl rfl) <| qH 12 rfl rfl rfl (qk rfl rfl) <| qS 1 rfl <| qd rfl rfl rfl (qI rfl (show wY v 6 = some (.slice (some ⟨bl, 0, none⟩) 32 32) by rw [hv]; rfl)) <| qS 13 rfl <| wR rfl rfl rfl (qo rfl rfl hR2.len hR'.len hR'.one) ?_
              obtain ⟨pg2, cg2, Cg2, hv2, hs2, hC2⟩ := hR'.at
              rw [zx] at hC2
              refine kw (L' := [(b2, .cells l'.toArray 41 (0, 0))] :: [(b4, .cells node0V.toArray 41 (0, 0))] :: [(ba, .cells ((z7 (yH w' (w'.leaves k)).all).flatMap wz ++ []).toArray 125 (0, 0))] :: [(bl, .cells ((wN w'.leaves).flatMap wy ++ []).toArray 38 (0, 0))] :: Cg2 :: F) (by rw [hC2]; exact (yj (by intro f; simp only [List.flatten_cons, List.flatten_nil, List.append_nil, List.countP_append, List.countP_cons, List.countP_nil]; omega))) ?_
              refine qH 14 rfl rfl rfl (ws (j := k) (off := k * 2) rfl rfl rfl (by omega) (by simp)) ?_
              refine qS 15 rfl <| wR rfl rfl rfl (zH (j := k) (p' := ⟨0, false⟩) zV rfl rfl rfl (zF (by omega)) rfl rfl) <| wF <| qe <| qW ⟨(wd w' k, l', (ba, .cells ((z7 (yH w' (w'.leaves k)).all).flatMap wz ++ []).toArray 125 (0, 0)) :: (bl, .cells ((wN (upd w'.leaves k ⟨0, false⟩)).flatMap wy ++ []).toArray 38 (0, 0)) :: Cg2), ?_⟩ ?_
              ·
               try dsimp only
               have hkf : ¬ yE w' 2 k = true := by simpa using hc23
               refine ⟨?_, rfl, ?_⟩
               · unfold wd; rw [if_neg hkf]; exact ⟨_, Cg2, hv2, hs2, rfl⟩
               · unfold wd; rw [if_neg hkf]; have := yK w' (w'.leaves k); dsimp only; omega
              · (try dsimp only); exact (by rw [show ∀ (f : Int → yF) (b : yF), (wN f).set k b = wN (upd f (k : Int) b) from fun _ _ => zo]; exact wZ (by simp))
          ·
           refine qd rfl rfl rfl (qI rfl (show wY v 6 = some (.slice (some ⟨bl, 0, none⟩) 32 32) by rw [hv]; rfl)) <| qH 7 rfl rfl rfl (ws (j := k) (off := k * 2) rfl rfl rfl (by omega) (by simp)) ?_
           refine xu (i := 1) (j := 3) (k := 8) (by kernel_rfl) rfl ?_ ?_ ?_
           ·
            refine qd rfl rfl rfl (qI rfl (show wY v 6 = some (.slice (some ⟨bl, 0, none⟩) 32 32) by rw [hv]; rfl)) <| wv (i := 3) (j := 8) (by kernel_rfl) rfl ?_ ?_
            ·
             refine qd rfl rfl rfl (wQ rfl hR2.len) <| qS 8 rfl <| qd rfl rfl rfl (zg (j := k) zV rfl (show (bl, Obj.cells ((wN w'.leaves).flatMap wy ++ []).toArray 38 (0, 0)) ∈ List.flatten _ by rw [hC']; simp) (zF (by omega)) rfl) <| qS 9 rfl <| w7 rfl rfl rfl (w5 rfl (we (C) (yn w' v C hR2 (w'.leaves k) (by omega)))) ?_
             rintro t90 _ ⟨l', C'', rfl, hR', rfl⟩
             refine qH 10 rfl rfl rfl (wO rfl) <| qH 11 rfl rfl rfl (qk rfl rfl) <| qH 12 rfl rfl rfl (qk rfl rfl) <| qS 13 rfl <| wR rfl rfl rfl (qo rfl rfl hR2.len hR'.len hR'.one) ?_
             obtain ⟨pg2, cg2, Cg2, hv2, hs2, hC2⟩ := hR'.at
             rw [zx] at hC2
             refine kw (L' := [(b2, .cells l'.toArray 41 (0, 0))] :: [(b4, .cells node0V.toArray 41 (0, 0))] :: [(ba, .cells ((z7 (yH w' (w'.leaves k)).all).flatMap wz ++ []).toArray 125 (0, 0))] :: [(bl, .cells ((wN w'.leaves).flatMap wy ++ []).toArray 38 (0, 0))] :: Cg2 :: F) (by rw [hC2]; exact (yj (by intro f; simp only [List.flatten_cons, List.flatten_nil, List.append_nil, List.countP_append, List.countP_cons, List.countP_nil]; omega))) ?_
             refine qH 14 rfl rfl rfl (ws (j := k) (off := k * 2) rfl rfl rfl (by omega) (by simp)) ?_
             refine qS 15 rfl <| wR rfl rfl rfl (zH (j := k) (p' := ⟨0, false⟩) zV rfl rfl rfl (zF (by omega)) rfl rfl) <| wF <| qe <| qW ⟨(wd w' k, l', (ba, .cells ((z7 (yH w' (w'.leaves k)).all).flatMap wz ++ []).toArray 125 (0, 0)) :: (bl, .cells ((wN (upd w'.leaves k ⟨0, false⟩)).flatMap wy ++ []).toArray 38 (0, 0)) :: Cg2), ?_⟩ ?_
             ·
              try dsimp only
              have hkf : ¬ yE w' 2 k = true := by simpa using hc23
              refine ⟨?_, rfl, ?_⟩
              · unfold wd; rw [if_neg hkf]; exact ⟨_, Cg2, hv2, hs2, rfl⟩
              · unfold wd; rw [if_neg hkf]; have := yK w' (w'.leaves k); dsimp only; omega
             · (try dsimp only); exact (by rw [show ∀ (f : Int → yF) (b : yF), (wN f).set k b = wN (upd f (k : Int) b) from fun _ _ => zo]; exact wZ (by simp))
            ·
             refine qd rfl rfl rfl (zg (j := k) zV rfl (show (bl, Obj.cells ((wN w'.leaves).flatMap wy ++ []).toArray 38 (0, 0)) ∈ List.flatten _ by rw [hC']; simp) (zF (by omega)) rfl) <| qS 3 rfl <| qd rfl rfl rfl (wQ rfl hR2.len) <| qS 9 rfl <| w7 rfl rfl rfl (w5 rfl (we (C) (yn w' v C hR2 (w'.leaves k) (by omega)))) ?_
             rintro t90 _ ⟨l', C'', rfl, hR', rfl⟩
             refine qH 10 rfl rfl rfl (wO rfl) <| qH 11 rfl rfl rfl (qk rfl rfl) <| qH 12 rfl rfl rfl (qk rfl rfl) <| qS 13 rfl <| wR rfl rfl rfl (qo rfl rfl hR2.len hR'.len hR'.one) ?_
             obtain ⟨pg2, cg2, Cg2, hv2, hs2, hC2⟩ := hR'.at
             rw [zx] at hC2
             refine kw (L' := [(b2, .cells l'.toArray 41 (0, 0))] :: [(b4, .cells node0V.toArray 41 (0, 0))] :: [(ba, .cells ((z7 (yH w' (w'.leaves k)).all).flatMap wz ++ []).toArray 125 (0, 0))] :: [(bl, .cells ((wN w'.leaves).flatMap wy ++ []).toArray 38 (0, 0))] :: Cg2 :: F) (by rw [hC2]; exact (yj (by intro f; simp only [List.flatten_cons, List.flatten_nil, List.append_nil, List.countP_append, List.countP_cons, List.countP_nil]; omega))) ?_
             refine qH 14 rfl rfl rfl (ws (j := k) (off := k * 2) rfl rfl rfl (by omega) (by simp)) ?_
             refine qS 15 rfl <| wR rfl rfl rfl (zH (j := k) (p' := ⟨0, false⟩) zV rfl rfl rfl (zF (by omega)) rfl rfl) <| wF <| qe <| qW ⟨(wd w' k, l', (ba, .cells ((z7 (yH w' (w'.leaves k)).all).flatMap wz ++ []).toArray 125 (0, 0)) :: (bl, .cells ((wN (upd w'.leaves k ⟨0, false⟩)).flatMap wy ++ []).toArray 38 (0, 0)) :: Cg2), ?_⟩ ?_
             ·
              try dsimp only
              have hkf : ¬ yE w' 2 k = true := by simpa using hc23
              refine ⟨?_, rfl, ?_⟩
              · unfold wd; rw [if_neg hkf]; exact ⟨_, Cg2, hv2, hs2, rfl⟩
              · unfold wd; rw [if_neg hkf]; have := yK w' (w'.leaves k); dsimp only; omega
             · (try dsimp only); exact (by rw [show ∀ (f : Int → yF) (b : yF), (wN f).set k b = wN (upd f (k : Int) b) from fun _ _ => zo]; exact wZ (by simp))
           ·
            refine qd rfl rfl rfl (wQ rfl hR2.len) <| wv (i := 1) (j := 8) (by kernel_rfl) rfl ?_ ?_
            ·
             refine qd rfl rfl rfl (qI rfl (show wY v 6 = some (.slice (some ⟨bl, 0, none⟩) 32 32) by rw [hv]; rfl)) <| qS 8 rfl <| qd rfl rfl rfl (zg (j := k) zV rfl (show (bl, Obj.cells ((wN w'.leaves).flatMap wy ++ []).toArray 38 (0, 0)) ∈ List.flatten _ by rw [hC']; simp) (zF (by omega)) rfl) <| qS 9 rfl <| w7 rfl rfl rfl (w5 rfl (we (C) (yn w' v C hR2 (w'.leaves k) (by omega)))) ?_
             rintro t90 _ ⟨l', C'', rfl, hR', rfl⟩
             refine qH 10 rfl rfl rfl (wO rfl) <| qH 11 rfl rfl rfl (qk rfl rfl) <| qH 12 rfl rfl rfl (qk rfl rfl) <| qS 13 rfl <| wR rfl rfl rfl (qo rfl rfl hR2.len hR'.len hR'.one) ?_
             obtain ⟨pg2, cg2, Cg2, hv2, hs2, hC2⟩ := hR'.at
             rw [zx] at hC2
             refine kw (L' := [(b2, .cells l'.toArray 41 (0, 0))] :: [(b4, .cells node0V.toArray 41 (0, 0))] :: [(ba, .cells ((z7 (yH w' (w'.leaves k)).all).flatMap wz ++ []).toArray 125 (0, 0))] :: [(bl, .cells ((wN w'.leaves).flatMap wy ++ []).toArray 38 (0, 0))] :: Cg2 :: F) (by rw [hC2]; exact (yj (by intro f; simp only [List.flatten_cons, List.flatten_nil, List.append_nil, List.countP_append, List.countP_cons, List.countP_nil]; omega))) ?_
             refine qH 14 rfl rfl rfl (ws (j := k) (off := k * 2) rfl rfl rfl (by omega) (by simp)) ?_
             refine qS 15 rfl <| wR rfl rfl rfl (zH (j := k) (p' := ⟨0, false⟩) zV rfl rfl rfl (zF (by omega)) rfl rfl) <| wF <| qe <| qW ⟨(wd w' k, l', (ba, .cells ((z7 (yH w' (w'.leaves k)).all).flatMap wz ++ []).toArray 125 (0, 0)) :: (bl, .cells ((wN (upd w'.leaves k ⟨0, false⟩)).flatMap wy ++ []).toArray 38 (0, 0)) :: Cg2), ?_⟩ ?_
             ·
              try dsimp only
              have hkf : ¬ yE w' 2 k = true := by simpa using hc23
              refine ⟨?_, rfl, ?_⟩
              · unfold wd; rw [if_neg hkf]; exact ⟨_, Cg2, hv2, hs2, rfl⟩
              · unfold wd; rw [if_neg hkf]; have := yK w' (w'.leaves k); dsimp only; omega
             · (try dsimp only); exact (by rw [show ∀ (f : Int → yF) (b : yF), (wN f).set k b = wN (upd f (k : Int) b) from fun _ _ => zo]; exact wZ (by simp))
            ·
             refine qd rfl rfl rfl (zg (j := k) zV rfl (show (bl, Obj.cells ((wN w'.leaves).flatMap wy ++ []).toArray 38 (0, 0)) ∈ List.flatten _ by rw [hC']; simp) (zF (by omega)) rfl) <| wv (i := 1) (j := 9) (by kernel_rfl) rfl ?_ ?_
             ·
              refine qd rfl rfl rfl (qI rfl (show wY v 6 = some (.slice (some ⟨bl, 0, none⟩) 32 32) by rw [hv]; rfl)) <| qS 9 rfl <| w7 rfl rfl rfl (w5 rfl (we (C) (yn w' v C hR2 (w'.leaves k) (by omega)))) ?_
              rintro t90 _ ⟨l', C'', rfl, hR', rfl⟩
              refine qH 10 rfl rfl rfl (wO rfl) <| qH 11 rfl rfl rfl (qk rfl rfl) <| qH 12 rfl rfl rfl (qk rfl rfl) <| qS 13 rfl <| wR rfl rfl rfl (qo rfl rfl hR2.len hR'.len hR'.one) ?_
              obtain ⟨pg2, cg2, Cg2, hv2, hs2, hC2⟩ := hR'.at
              rw [zx] at hC2
              refine kw (L' := [(b2, .cells l'.toArray 41 (0, 0))] :: [(b4, .cells node0V.toArray 41 (0, 0))] :: [(ba, .cells ((z7 (yH w' (w'.leaves k)).all).flatMap wz ++ []).toArray 125 (0, 0))] :: [(bl, .cells ((wN w'.leaves).flatMap wy ++ []).toArray 38 (0, 0))] :: Cg2 :: F) (by rw [hC2]; exact (yj (by intro f; simp only [List.flatten_cons, List.flatten_nil, List.append_nil, List.countP_append, List.countP_cons, List.countP_nil]; omega))) ?_
              refine qH 14 rfl rfl rfl (ws (j := k) (off := k * 2) rfl rfl rfl (by omega) (by simp)) ?_
              refine qS 15 rfl <| wR rfl rfl rfl (zH (j := k) (p' := ⟨0, false⟩) zV rfl rfl rfl (zF (by omega)) rfl rfl) <| wF <| qe <| qW ⟨(wd w' k, l', (ba, .cells ((z7 (yH w' (w'.leaves k)).all).flatMap wz ++ []).toArray 125 (0, 0)) :: (bl, .cells ((wN (upd w'.leaves k ⟨0, false⟩)).flatMap wy ++ []).toArray 38 (0, 0)) :: Cg2), ?_⟩ ?_
              ·
               try dsimp only
               have hkf : ¬ yE w' 2 k = true := by simpa using hc23
               refine ⟨?_, rfl, ?_⟩
               · unfold wd; rw [if_neg hkf]; exact ⟨_, Cg2, hv2, hs2, rfl⟩
               · unfold wd; rw [if_neg hkf]; have := yK w' (w'.leaves k); dsimp only; omega
              · (try dsimp only); exact (by rw [show ∀ (f : Int → yF) (b : yF), (wN f).set k b = wN (upd f (k : Int) b) from fun _ _ => zo]; exact wZ (by simp))
             ·
              refine w7 rfl rfl rfl (w5 rfl (we (C) (yn w' v C hR2 (w'.leaves k) (by omega)))) ?_
              rintro t90 _ ⟨l', C'', rfl, hR', rfl⟩
              refine qH 10 rfl rfl rfl (wO rfl) <| qH 11 rfl rfl rfl (qk rfl rfl) <| qH 12 rfl rfl rfl (qk rfl rfl) <| qS 1 rfl <| qd rfl rfl rfl (qI rfl (show wY v 6 = some (.slice (some ⟨bl, 0, none⟩) 32 32) by rw [hv]; rfl)) <| qS 13 rfl <| wR rfl rfl rfl (qo rfl rfl hR2.len hR'.len hR'.one) ?_
              obtain ⟨pg2, cg2, Cg2, hv2, hs2, hC2⟩ := hR'.at
              rw [zx] at hC2
              refine kw (L' := [(b2, .cells l'.toArray 41 (0, 0))] :: [(b4, .cells node0V.toArray 41 (0, 0))] :: [(ba, .cells ((z7 (yH w' (w'.leaves k)).all).flatMap wz ++ []).toArray 125 (0, 0))] :: [(bl, .cells ((wN w'.leaves).flatMap wy ++ []).toArray 38 (0, 0))] :: Cg2 :: F) (by rw [hC2]; exact (yj (by intro f; simp only [List.flatten_cons, List.flatten_nil, List.append_nil, List.countP_append, List.countP_cons, List.countP_nil]; omega))) ?_
              refine qH 14 rfl rfl rfl (ws (j := k) (off := k * 2) rfl rfl rfl (by omega) (by simp)) ?_
              refine qS 15 rfl <| wR rfl rfl rfl (zH (j := k) (p' := ⟨0, false⟩) zV rfl rfl rfl (zF (by omega)) rfl rfl) <| wF <| qe <| qW ⟨(wd w' k, l', (ba, .cells ((z7 (yH w' (w'.leaves k)).all).flatMap wz ++ []).toArray 125 (0, 0)) :: (bl, .cells ((wN (upd w'.leaves k ⟨0, false⟩)).flatMap wy ++ []).toArray 38 (0, 0)) :: Cg2), ?_⟩ ?_
              ·
               try dsimp only
               have hkf : ¬ yE w' 2 k = true := by simpa using hc23
               refine ⟨?_, rfl, ?_⟩
               · unfold wd; rw [if_neg hkf]; exact ⟨_, Cg2, hv2, hs2, rfl⟩
               · unfold wd; rw [if_neg hkf]; have := yK w' (w'.leaves k); dsimp only; omega
              · (try dsimp only); exact (by rw [show ∀ (f : Int → yF) (b : yF), (wN f).set k b = wN (upd f (k : Int) b) from fun _ _ => zo]; exact wZ (by simp))
           ·
            refine qd rfl rfl rfl (zg (j := k) zV rfl (show (bl, Obj.cells ((wN w'.leaves).flatMap wy ++ []).toArray 38 (0, 0)) ∈ List.flatten _ by rw [hC']; simp) (zF (by omega)) rfl) <| wv (i := 1) (j := 3) (by kernel_rfl) rfl ?_ ?_
            ·
             refine qd rfl rfl rfl (qI rfl (show wY v 6 = some (.slice (some ⟨bl, 0, none⟩) 32 32) by rw [hv]; rfl)) <| qS 3 rfl <| qd rfl rfl rfl (wQ rfl hR2.len) <| qS 9 rfl <| w7 rfl rfl rfl (w5 rfl (we (C) (yn w' v C hR2 (w'.leaves k) (by omega)))) ?_
             rintro t90 _ ⟨l', C'', rfl, hR', rfl⟩
             refine qH 10 rfl rfl rfl (wO rfl) <| qH 11 rfl rfl rfl (qk rfl rfl) <| qH 12 rfl rfl rfl (qk rfl rfl) <| qS 13 rfl <| wR rfl rfl rfl (qo rfl rfl hR2.len hR'.len hR'.one) ?_
             obtain ⟨pg2, cg2, Cg2, hv2, hs2, hC2⟩ := hR'.at
             rw [zx] at hC2
             refine kw (L' := [(b2, .cells l'.toArray 41 (0, 0))] :: [(b4, .cells node0V.toArray 41 (0, 0))] :: [(ba, .cells ((z7 (yH w' (w'.leaves k)).all).flatMap wz ++ []).toArray 125 (0, 0))] :: [(bl, .cells ((wN w'.leaves).flatMap wy ++ []).toArray 38 (0, 0))] :: Cg2 :: F) (by rw [hC2]; exact (yj (by intro f; simp only [List.flatten_cons, List.flatten_nil, List.append_nil, List.countP_append, List.countP_cons, List.countP_nil]; omega))) ?_
             refine qH 14 rfl rfl rfl (ws (j := k) (off := k * 2) rfl rfl rfl (by omega) (by simp)) ?_
             refine qS 15 rfl <| wR rfl rfl rfl (zH (j := k) (p' := ⟨0, false⟩) zV rfl rfl rfl (zF (by omega)) rfl rfl) <| wF <| qe <| qW ⟨(wd w' k, l', (ba, .cells ((z7 (yH w' (w'.leaves k)).all).flatMap wz ++ []).toArray 125 (0, 0)) :: (bl, .cells ((wN (upd w'.leaves k ⟨0, false⟩)).flatMap wy ++ []).toArray 38 (0, 0)) :: Cg2), ?_⟩ ?_
             ·
              try dsimp only
              have hkf : ¬ yE w' 2 k = true := by simpa using hc23
              refine ⟨?_, rfl, ?_⟩
              · unfold wd; rw [if_neg hkf]; exact ⟨_, Cg2, hv2, hs2, rfl⟩
              · unfold wd; rw [if_neg hkf]; have := yK w' (w'.leaves k); dsimp only; omega
             · (try dsimp only); exact (by rw [show ∀ (f : Int → yF) (b : yF), (wN f).set k b = wN (upd f (k : Int) b) from fun _ _ => zo]; exact wZ (by simp))
            ·
             refine qd rfl rfl rfl (wQ rfl hR2.len) <| wv (i := 1) (j := 9) (by kernel_rfl) rfl ?_ ?_
             ·
              refine qd rfl rfl rfl (qI rfl (show wY v 6 = some (.slice (some ⟨bl, 0, none⟩) 32 32) by rw [hv]; rfl)) <| qS 9 rfl <| w7 rfl rfl rfl (w5 rfl (we (C) (yn w' v C hR2 (w'.leaves k) (by omega)))) ?_
              rintro t90 _ ⟨l', C'', rfl, hR', rfl⟩
              refine qH 10 rfl rfl rfl (wO rfl) <| qH 11 rfl rfl rfl (qk rfl rfl) <| qH 12 rfl rfl rfl (qk rfl rfl) <| qS 13 rfl <| wR rfl rfl rfl (qo rfl rfl hR2.len hR'.len hR'.one) ?_
              obtain ⟨pg2, cg2, Cg2, hv2, hs2, hC2⟩ := hR'.at
              rw [zx] at hC2
              refine kw (L' := [(b2, .cells l'.toArray 41 (0, 0))] :: [(b4, .cells node0V.toArray 41 (0, 0))] :: [(ba, .cells ((z7 (yH w' (w'.leaves k)).all).flatMap wz ++ []).toArray 125 (0, 0))] :: [(bl, .cells ((wN w'.leaves).flatMap wy ++ []).toArray 38 (0, 0))] :: Cg2 :: F) (by rw [hC2]; exact (yj (by intro f; simp only [List.flatten_cons, List.flatten_nil, List.append_nil, List.countP_append, List.countP_cons, List.countP_nil]; omega))) ?_
              refine qH 14 rfl rfl rfl (ws (j := k) (off := k * 2) rfl rfl rfl (by omega) (by simp)) ?_
              refine qS 15 rfl <| wR rfl rfl rfl (zH (j := k) (p' := ⟨0, false⟩) zV rfl rfl rfl (zF (by omega)) rfl rfl) <| wF <| qe <| qW ⟨(wd w' k, l', (ba, .cells ((z7 (yH w' (w'.leaves k)).all).flatMap wz ++ []).toArray 125 (0, 0)) :: (bl, .cells ((wN (upd w'.leaves k ⟨0, false⟩)).flatMap wy ++ []).toArray 38 (0, 0)) :: Cg2), ?_⟩ ?_
              ·
               try dsimp only
               have hkf : ¬ yE w' 2 k = true := by simpa using hc23
               refine ⟨?_, rfl, ?_⟩
               · unfold wd; rw [if_neg hkf]; exact ⟨_, Cg2, hv2, hs2, rfl⟩
               · unfold wd; rw [if_neg hkf]; have := yK w' (w'.leaves k); dsimp only; omega
              · (try dsimp only); exact (by rw [show ∀ (f : Int → yF) (b : yF), (wN f).set k b = wN (upd f (k : Int) b) from fun _ _ => zo]; exact wZ (by simp))
             ·
              refine w7 rfl rfl rfl (w5 rfl (we (C) (yn w' v C hR2 (w'.leaves k) (by omega)))) ?_
              rintro t90 _ ⟨l', C'', rfl, hR', rfl⟩
              refine qH 10 rfl rfl rfl (wO rfl) <| qH 11 rfl rfl rfl (qk rfl rfl) <| qH 12 rfl rfl rfl (qk rfl rfl) <| qS 1 rfl <| qd rfl rfl rfl (qI rfl (show wY v 6 = some (.slice (some ⟨bl, 0, none⟩) 32 32) by rw [hv]; rfl)) <| qS 13 rfl <| wR rfl rfl rfl (qo rfl rfl hR2.len hR'.len hR'.one) ?_
              obtain ⟨pg2, cg2, Cg2, hv2, hs2, hC2⟩ := hR'.at
              rw [zx] at hC2
              refine kw (L' := [(b2, .cells l'.toArray 41 (0, 0))] :: [(b4, .cells node0V.toArray 41 (0, 0))] :: [(ba, .cells ((z7 (yH w' (w'.leaves k)).all).flatMap wz ++ []).toArray 125 (0, 0))] :: [(bl, .cells ((wN w'.leaves).flatMap wy ++ []).toArray 38 (0, 0))] :: Cg2 :: F) (by rw [hC2]; exact (yj (by intro f; simp only [List.flatten_cons, List.flatten_nil, List.append_nil, List.countP_append, List.countP_cons, List.countP_nil]; omega))) ?_
              refine qH 14 rfl rfl rfl (ws (j := k) (off := k * 2) rfl rfl rfl (by omega) (by simp)) ?_
              refine qS 15 rfl <| wR rfl rfl rfl (zH (j := k) (p' := ⟨0, false⟩) zV rfl rfl rfl (zF (by omega)) rfl rfl) <| wF <| qe <| qW ⟨(wd w' k, l', (ba, .cells ((z7 (yH w' (w'.leaves k)).all).flatMap wz ++ []).toArray 125 (0, 0)) :: (bl, .cells ((wN (upd w'.leaves k ⟨0, false⟩)).flatMap wy ++ []).toArray 38 (0, 0)) :: Cg2), ?_⟩ ?_
              ·
               try dsimp only
               have hkf : ¬ yE w' 2 k = true := by simpa using hc23
               refine ⟨?_, rfl, ?_⟩
               · unfold wd; rw [if_neg hkf]; exact ⟨_, Cg2, hv2, hs2, rfl⟩
               · unfold wd; rw [if_neg hkf]; have := yK w' (w'.leaves k); dsimp only; omega
              · (try dsimp only); exact (by rw [show ∀ (f : Int → yF) (b : yF), (wN f).set k b = wN (upd f (k : Int) b) from fun _ _ => zo]; exact wZ (by simp))
         ·
          refine qZ <| qe <| qW ⟨(w', v, C), ?_⟩ ?_
          ·
           try dsimp only
           have hkf : yE w' 2 k = true := by simpa using hc23
           exact ⟨hR2, by unfold wd; rw [if_pos hkf], by omega⟩
          · (try dsimp only); exact qX _
        rintro ⟨⟨w3, v3, C3⟩, hcut⟩
        replace hcut : RefC ba bl w3 v3 C3 ∧ w3 = wd w' k ∧ w3.gone.length ≤ 802001 + k := hcut
        obtain ⟨hR3, hW3, hgl3⟩ := hcut
        show Tr _ _ _ ([(1, .int .i64 size), (2, .pointer (some ⟨b2, 0, none⟩)), (4, .pointer (some ⟨b4, 0, none⟩)), (10, .int .i64 k)]) ([(b2, .cells v3.toArray 41 (0, 0))] :: [(b4, .cells node0V.toArray 41 (0, 0))] :: C3 :: F) _ _
        refine qK <| qA rfl <| q9 (w9 rfl rfl (by omega)) <| qE rfl <| qT <| w6 ⟨(k + 1, w3, v3, C3, _), ?_⟩ ?_ ?_
        ·
         try dsimp only
         refine ⟨by omega, hR3, by omega, ?_, by omega⟩
         rw [← hfold2, hW3, kJ (jP (show k < 32 by omega)), List.foldl_cons]
        · (try dsimp only); omega
        · (try dsimp only); exact qX _
       ·
        refine wa <| qr <| qt <| qh <| qJ <| zY (Γ := {pΓ : (RS) × (List Value) × (qV) // (fun (w4 : RS) (v4 : List Value) (C4 : qV) => RefC ba bl w4 v4 C4 ∧ w4 = Qy w' ∧ w4.gone.length ≤ 803000) pΓ.1 pΓ.2.1 pΓ.2.2}) (fun g => (fun (w4 : RS) (v4 : List Value) (C4 : qV) => [(1, .int .i64 size), (2, .pointer (some ⟨b2, 0, none⟩)), (4, .pointer (some ⟨b4, 0, none⟩))]) g.1.1 g.1.2.1 g.1.2.2) (fun g => (fun (w4 : RS) (v4 : List Value) (C4 : qV) => [(b2, .cells v4.toArray 41 (0, 0))] :: [(b4, .cells node0V.toArray 41 (0, 0))] :: C4 :: F) g.1.1 g.1.2.1 g.1.2.2) ?_ ?_
        ·
         refine qN ?_
         rw [List.drop_of_length_le (by rw [xE]; omega), List.foldl_nil] at hfold2
         obtain ⟨pg', cg', Cg', hv, hs', hC'⟩ := hR2.at
         refine qK <| q9 (wQ rfl hR2.len) <| q9 (wM rfl (zk (C) (jO w' v C hR2 1 0))) <| q9 (kX rfl) <| qF <| yB rfl (fun hc25 => ?_) (fun hc25 => ?_)
         ·
          refine qK <| q9 (wQ rfl hR2.len) <| q9 (qB rfl) <| q9 (zp (r := wy w'.sg) rfl (by rw [hv]; rfl) rfl) ?_
          refine qG (w5 rfl (we (C) (yn w' v C hR2 w'.sg (by omega)))) ?_
          rintro t101 _ ⟨l', C'', rfl, hR', rfl⟩
          refine qA rfl <| q9 (qf rfl rfl) <| q9 (qf rfl rfl) <| qR (qo rfl rfl hR2.len hR'.len hR'.one) <| q9 (qB rfl) <| qR (yw (r := l'.take 7 ++ wy ⟨0, false⟩ ++ l'.drop 9) rfl rfl rfl (by rw [hR'.len]; decide) rfl rfl) ?_
          refine qT <| qW ⟨(Qy w', l'.take 7 ++ wy ⟨0, false⟩ ++ l'.drop 9, C''), ?_⟩ ?_
          ·
           try dsimp only
           have hkf : ¬ yE w' 1 0 = true := by simpa using hc25
           refine ⟨?_, rfl, ?_⟩
           · unfold Qy; rw [if_neg hkf]; exact hR'.setSg ⟨0, false⟩
           · unfold Qy; rw [if_neg hkf]; have := yK w' w'.sg; dsimp only; omega
          · (try dsimp only); exact qX _
         ·
          refine qZ <| qW ⟨(w', v, C), ?_⟩ ?_
          ·
           try dsimp only
           have hkf : yE w' 1 0 = true := by simpa using hc25
           exact ⟨hR2, by unfold Qy; rw [if_pos hkf], by omega⟩
          · (try dsimp only); exact qX _
        rintro ⟨⟨w4, v4, C4⟩, hcut⟩
        replace hcut : RefC ba bl w4 v4 C4 ∧ w4 = Qy w' ∧ w4.gone.length ≤ 803000 := hcut
        obtain ⟨hR4, hW4, hgl4⟩ := hcut
        show Tr _ _ _ ([(1, .int .i64 size), (2, .pointer (some ⟨b2, 0, none⟩)), (4, .pointer (some ⟨b4, 0, none⟩))]) ([(b2, .cells v4.toArray 41 (0, 0))] :: [(b4, .cells node0V.toArray 41 (0, 0))] :: C4 :: F) _ _
        refine qN ?_
        obtain ⟨pg', cg', Cg', hv, hs', hC'⟩ := hR4.at
        refine qK <| q9 (wQ rfl hR4.len) <| q9 (wM rfl (zk (C4) (jO w4 v4 C4 hR4 2 (-1)))) <| q9 (kX rfl) <| qF <| yB rfl (fun hc27 => ?_) (fun hc27 => ?_)
        ·
         refine qK <| q9 (wQ rfl hR4.len) <| q9 (qB rfl) <| q9 (zp (r := wy w4.db) rfl (by rw [hv]; rfl) rfl) ?_
         refine qG (w5 rfl (we (C4) (yn w4 v4 C4 hR4 w4.db (by omega)))) ?_
         rintro t112 _ ⟨l', C'', rfl, hR', rfl⟩
         refine qA rfl <| q9 (qf rfl rfl) <| q9 (qf rfl rfl) <| qR (qo rfl rfl hR4.len hR'.len hR'.one) <| q9 (qB rfl) <| qR (yw (r := l'.take 9 ++ wy ⟨0, false⟩ ++ l'.drop 11) rfl rfl rfl (by rw [hR'.len]; decide) rfl rfl) ?_
         refine qT <| qW ⟨(YI w4, l'.take 9 ++ wy ⟨0, false⟩ ++ l'.drop 11, C''), ?_⟩ ?_
         ·
          try dsimp only
          have hkf : ¬ yE w4 2 (-1) = true := by simpa using hc27
          refine ⟨?_, ?_⟩
          · unfold YI; rw [if_neg hkf]; exact hR'.setDb ⟨0, false⟩
          · have h := hfold2
            rw [List.drop_of_length_le (by rw [xE]; omega), List.foldl_nil] at h
            rw [← hfold]; unfold Zc; rw [if_pos hc19, ← h, hW4]
         · (try dsimp only); exact qX _
        ·
         refine qZ <| qW ⟨(w4, v4, C4), ?_⟩ ?_
         ·
          try dsimp only
          have hkf : yE w4 2 (-1) = true := by simpa using hc27
          refine ⟨hR4, ?_⟩
          have h := hfold2
          rw [List.drop_of_length_le (by rw [xE]; omega), List.foldl_nil] at h
          rw [← hfold]; unfold Zc; rw [if_pos hc19, ← h, ← hW4]; unfold YI; rw [if_pos hkf]
         · (try dsimp only); exact qX _
      ·
       refine qZ <| qW ⟨(w, v, C), ?_⟩ ?_
       · (try dsimp only); exact ⟨hR, by rw [← hfold]; unfold Zc; rw [if_neg (by rw [hc19]; simp)]⟩
       · (try dsimp only); exact qX _
     rintro ⟨⟨w2, v2, C2⟩, hcut⟩
     replace hcut : RefC ba bl w2 v2 C2 ∧ w2 = Zc (k7 W1 size) := hcut
     obtain ⟨hw2, hW2⟩ := hcut
     show Tr _ _ _ ([(1, .int .i64 size), (2, .pointer (some ⟨b2, 0, none⟩)), (4, .pointer (some ⟨b4, 0, none⟩))]) ([(b2, .cells v2.toArray 41 (0, 0))] :: [(b4, .cells node0V.toArray 41 (0, 0))] :: C2 :: F) _ _
     refine qN <| qN ?_
     obtain ⟨pg', cg', Cg', hv, hs', hC'⟩ := hw2.at
     have hT : jZ W size = (0, K4 w2 size) := by unfold jZ; rw [if_neg hc1, if_neg hc3, ← hW1, ← hW2]
     rw [hv]
     unfold kV
     refine qK <| q9 (qB rfl) <| q9 (qI rfl rfl) <| qA rfl <| q9 (zE rfl rfl) <| qF <| qM rfl (fun hc29 => ?_) (fun hc29 => ?_)
     ·
      refine qO <| qA rfl <| q9 (qB rfl) <| qR (wu rfl rfl rfl) <| qF <| qK <| q9 (qB rfl) <| q9 (wA rfl) <| qR (wu rfl rfl rfl) <| qm <| q9 (wW rfl) <| qR (wc rfl rfl rfl rfl) <| qE rfl <| qF <| qy <| wU (C2 :: F) (.inl rfl) rfl (zU rfl) (qu rfl) ?_
      rw [hT]
      first
      | exact ⟨_, C2, rfl, by unfold K4; rw [if_pos hc29, hC']; exact ⟨_, Cg', rfl, hs', rfl⟩, rfl⟩
      | exact ⟨_, C2, rfl, by unfold K4; rw [if_neg hc29, hC']; exact ⟨_, Cg', rfl, hs', rfl⟩, rfl⟩
     ·
      refine qZ <| qJ <| qO <| q9 (wW rfl) <| qR (wc rfl rfl rfl rfl) <| qE rfl <| qF <| qy <| wU (C2 :: F) (.inl rfl) rfl (zU rfl) (qu rfl) ?_
      rw [hT]
      first
      | exact ⟨_, C2, rfl, by unfold K4; rw [if_pos hc29, hC']; exact ⟨_, Cg', rfl, hs', rfl⟩, rfl⟩
      | exact ⟨_, C2, rfl, by unfold K4; rw [if_neg hc29, hC']; exact ⟨_, Cg', rfl, hs', rfl⟩, rfl⟩
def Qo (b : Bool) : List Value := [.bool b]
theorem JW (b : Bool) : (Qo b).length = 1 := rfl
theorem Zs {n i : Nat} (h : i < n) (p : Int → Bool) : ((zu n).take (i + 1)).any p = (((zu n).take i).any p || p i) := by
  rw [List.take_add_one, jP h, List.any_append]; simp
theorem Zi {n i : Nat} (h : i < n) (p : Int → Bool) : ((zu n).take (i + 1)).filter p = ((zu n).take i).filter p ++ (if p i then [(i : Int)] else []) := filter_take (jP h)
def jB (W : RS) (lv : Int) (i : Int) : Bool := (W.all i).fresh && decide ((wG i).1 = lv)
def yQ (W : RS) (i : Nat) : List (Int × Int) := (((zu 1064).take i).filter (fun j => (W.all j).fresh)).map (fun j => (1, j))
def sgS (W : RS) (i : Nat) : Bool := W.sg.stale || ((zu 1064).take i).any (jB W 1)
def jV (W : RS) (i : Nat) (k : Int) : Bool := ((zu 1064).take i).any (fun j => jB W 2 j && decide ((wG j).2.1 = k))
def Qi (W : RS) (k : Int) : Bool := (W.leaves k).stale || jV W 1064 k
def kg (W : RS) (k : Nat) : List (Int × Int) := (((zu 32).take k).filter (fun j => Qi W j && yE W 2 j)).map (fun j => (5, j))
def dbS (W : RS) (k : Nat) : Bool := W.db.stale || ((zu 32).take k).any (Qi W)
def Vg (W : RS) : Bool := !(yQ W 1064).isEmpty || (W.self.stale || (W.sg.stale || W.db.stale))
def WS (W : RS) (k : Nat) : Bool := Vg W || ((zu 32).take k).any (Qi W)
def sgP (W : RS) : List (Int × Int) := if sgS W 1064 && yE W 1 0 then [(3, 0)] else []
def dbP (W : RS) : List (Int × Int) := if dbS W 32 && yE W 2 (-1) then [(4, 0)] else []
def YS (W : RS) : List (Int × Int) := if WS W 32 then [(2, 0)] else []
def zl (W : RS) : List (Int × Int) := yQ W 1064 ++ kg W 32 ++ sgP W ++ dbP W ++ YS W
theorem freshL_step (W : RS) {i : Nat} (h : i < 1064) : yQ W (i + 1) = yQ W i ++ (if (W.all i).fresh then [(1, (i : Int))] else []) := by
  unfold yQ; rw [Zi h, List.map_append]; split <;> rfl
theorem QL (W : RS) {k : Nat} (h : k < 32) : kg W (k + 1) = kg W k ++ (if Qi W k && yE W 2 k then [(5, (k : Int))] else []) := by
  unfold kg; rw [Zi h, List.map_append]; split <;> rfl
theorem sgS_step (W : RS) {i : Nat} (h : i < 1064) : sgS W (i + 1) = (sgS W i || jB W 1 i) := by
  unfold sgS; rw [Zs h, Bool.or_assoc]
theorem Zk (W : RS) {k : Nat} (h : k < 32) : dbS W (k + 1) = (dbS W k || Qi W k) := by
  unfold dbS; rw [Zs h, Bool.or_assoc]
theorem Z0 (W : RS) {k : Nat} (h : k < 32) : WS W (k + 1) = (WS W k || Qi W k) := by
  unfold WS; rw [Zs h, Bool.or_assoc]
theorem KP (W : RS) {i : Nat} (h : i < 1064) (k : Int) : jV W (i + 1) k = (jV W i k || (jB W 2 i && decide ((wG i).2.1 = k))) := by
  unfold jV; rw [Zs h]
theorem KQ (W : RS) {i : Nat} (h : i < 1064) (hf : jB W 2 i = false) : jV W (i + 1) = jV W i := by
  funext k; rw [KP W h, hf]; simp
theorem leafT_some (W : RS) {i : Nat} (h : i < 1064) (hf : jB W 2 i = true) : jV W (i + 1) = upd (jV W i) (wG i).2.1 true := by
  funext k; rw [KP W h, hf]; unfold upd
  by_cases e : k = (wG i).2.1
  · rw [if_pos e, e]; simp
  · rw [if_neg e]; simp [Ne.symm e]
theorem xF (W : RS) (i : Nat) (h : i ≤ 1064) : (yQ W i).length ≤ i := by
  unfold yQ; rw [List.length_map]
  refine Nat.le_trans (List.length_filter_le _ _) ?_
  simp; omega
theorem W9 (W : RS) (i : Nat) (h : i ≤ 32) : (kg W i).length ≤ i := by
  unfold kg; rw [List.length_map]
  refine Nat.le_trans (List.length_filter_le _ _) ?_
  simp; omega
theorem QF (W : RS) (v : List Value) (C : qV) (hw : RefC ba bl W v C) :
    FnT Tryz.prog w0 43 #[.agg v.toArray] (C :: F) (fun v L' => ∃ C', SlC 65 2 v (zl W).length ((zl W).flatMap zK) C' ∧ L' = C' :: C :: F) := by
  obtain ⟨pg, cg, Cg, hv, hs, hC⟩ := hw.at
  have hvlen := hw.len
  refine qi (E0 := [(0, _)]) (N := 118) Tryz.func43 rfl rfl rfl rfl ?_
  refine qO <| qG (wq rfl) ?_
  rintro t1 _ ⟨b1, rfl, rfl⟩
  refine qE rfl <| qm <| qE rfl <| qm <| q9 (qB rfl) <| q9 (wA rfl) <| q9 (qI rfl (show wY v 8 = some (.bool W.sg.stale) by rw [hv]; rfl)) <| qE rfl <| qm <| qG (xj (n := 32) (r := (List.replicate 32 false).flatMap Qo ++ []) rfl rfl (by decide) (by decide) (by rw [List.append_nil]; exact YB Qo 1 32 false rfl (by omega))) ?_
  rintro t15 _ ⟨bt, rfl, rfl⟩
  refine qE rfl <| qT ?_
  rw [show List.replicate 32 false = xX 32 (jV W 0) from by unfold xX jV; simp only [List.take_zero, List.any_nil]; rw [List.map_const', List.length_range]]
  refine qJ <| qN <| qO <| qE rfl <| qF <| qg <| wS (Γ := {pΓ : (Nat) × (Value) × (qV) × (Bool) // (fun (i : Nat) (uo : Value) (Co : qV) (sb : Bool) => i ≤ 1064 ∧ SlC 65 2 uo (yQ W i).length ((yQ W i).flatMap zK) Co ∧ sb = sgS W i) pΓ.1 pΓ.2.1 pΓ.2.2.1 pΓ.2.2.2}) (fun g => (fun (i : Nat) (uo : Value) (Co : qV) (sb : Bool) => [(1, .pointer (some ⟨b1, 0, none⟩)), (3, uo), (4, .bool sb), (5, .slice (some ⟨bt, 0, none⟩) 32 32), (6, .int .i64 i)]) g.1.1 g.1.2.1 g.1.2.2.1 g.1.2.2.2) (fun g => (fun (i : Nat) (uo : Value) (Co : qV) (sb : Bool) => Co :: [(bt, .cells ((xX 32 (jV W i)).flatMap Qo ++ []).toArray 4 (0, 0))] :: [(b1, .cells v.toArray 41 (0, 0))] :: C :: F) g.1.1 g.1.2.1 g.1.2.2.1 g.1.2.2.2) (fun g => (fun (i : Nat) (uo : Value) (Co : qV) (sb : Bool) => 1064 - i) g.1.1 g.1.2.1 g.1.2.2.1 g.1.2.2.2) ⟨(0, .slice none 0 0, [], W.sg.stale), by dsimp only; exact ⟨by omega, SlC.nil _ _, by simp [sgS]⟩⟩ (qX _) ?_
  rintro ⟨⟨i, uo, Co, sb⟩, hloop⟩
  replace hloop : i ≤ 1064 ∧ SlC 65 2 uo (yQ W i).length ((yQ W i).flatMap zK) Co ∧ sb = sgS W i := hloop
  obtain ⟨hi, hsl, hsb⟩ := hloop
  show Tr _ _ _ ([(1, .pointer (some ⟨b1, 0, none⟩)), (3, uo), (4, .bool sb), (5, .slice (some ⟨bt, 0, none⟩) 32 32), (6, .int .i64 i)]) (Co :: [(bt, .cells ((xX 32 (jV W i)).flatMap Qo ++ []).toArray 4 (0, 0))] :: [(b1, .cells v.toArray 41 (0, 0))] :: C :: F) _ _
  refine qN <| qO <| qA rfl <| q9 (wJ rfl rfl) <| qF <| qM rfl (fun hc5 => ?_) (fun hc5 => ?_)
  ·
   refine qZ <| qJ <| qN <| qg <| qN ?_
   have hst := freshL_step W (show i < 1064 by omega)
   have hss := sgS_step W (show i < 1064 by omega)
   have hfl := xF W i (by omega)
   refine qK <| q9 (qB rfl) <| q9 (qI rfl (show wY v 5 = some (.slice (some ⟨ba, 0, none⟩) 1064 1064) by rw [hv]; rfl)) <| qA rfl <| q9 (qx (j := i) (off := i * 131) rfl rfl rfl (by omega) (by simp)) ?_
   refine q9 (wA rfl) <| q9 (y0 (j := i) (k := 2) (v := .bool (W.all i).fresh) zh rfl (show (ba, Obj.cells ((z7 W.all).flatMap wz ++ []).toArray 125 (0, 0)) ∈ List.flatten _ by rw [hC]; simp) (yI (by omega)) rfl rfl) <| qF <| yB rfl (fun hc7 => ?_) (fun hc7 => ?_)
   ·
    refine qO <| qA rfl <| qA rfl <| q9 (wX rfl) <| qG (wK rfl rfl rfl) ?_
    rintro t29 _ ⟨b29, rfl, rfl⟩
    refine qG (wg (m := 1) (sz := 2) rfl rfl hsl (wk (ys := zK (1, (i : Int))) inferInstance rfl rfl) rfl Tryz.underlying77 rfl rfl (by omega)) ?_
    rintro t30 _ ⟨C', hs', rfl⟩
    refine qE rfl <| qT ?_
    rw [if_pos hc7] at hst
    have hs2 : SlC 65 2 t30 (yQ W (i + 1)).length ((yQ W (i + 1)).flatMap zK) C' := by rw [hst, List.length_append, List.flatMap_append]; simpa using hs'
    refine qJ <| qO <| qA rfl <| q9 (wM rfl (KB i (by omega))) <| qA rfl <| q9 (qf rfl rfl) <| q9 (qf rfl rfl) <| qG (qj) ?_
    rintro t7 _ ⟨b7, rfl, rfl⟩
    refine qR (wc (vs := [.int .i64 (wG i).1, .int .i64 (wG i).2.1, .int .i64 (wG i).2.2]) rfl rfl rfl rfl) <| qE rfl <| qF <| zY (Γ := {pΓ : (Bool) // (fun (sb2 : Bool) => sb2 = sgS W (i + 1)) pΓ}) (fun g => (fun (sb2 : Bool) => [(1, .pointer (some ⟨b1, 0, none⟩)), (4, .bool sb2), (3, t30), (5, .slice (some ⟨bt, 0, none⟩) 32 32), (6, .int .i64 i), (7, .pointer (some ⟨b7, 0, none⟩))]) g.1) (fun g => (fun (sb2 : Bool) => [(b7, .cells [.int .i64 (wG i).1, .int .i64 (wG i).2.1, .int .i64 (wG i).2.2].toArray 143 (0, 0))] :: C' :: [(bt, .cells ((xX 32 (jV W i)).flatMap Qo ++ []).toArray 4 (0, 0))] :: [(b1, .cells v.toArray 41 (0, 0))] :: C :: F) g.1) ?_ ?_
    ·
     refine qK <| qA rfl <| qA rfl <| zy (s := 37) rfl (fun hg10_1 => ?_) (fun hg10_1 => ?_)
     ·
      refine qL rfl rfl rfl <| qL rfl rfl rfl <| qL rfl rfl rfl <| q9 (qq rfl rfl) <| qE rfl <| qT <| qW ⟨_, ?_⟩ ?_
      · (try dsimp only); rw [hss, ← hsb, hg10_1]; first | rfl | (rw [Bool.false_or]; unfold jB; rw [hc7]; rfl)
      · (try dsimp only); exact qX _
     ·
      refine qD rfl rfl (qB rfl) <| qD rfl rfl (qI rfl rfl) <| qD rfl rfl (wn rfl rfl) <| q9 (qU rfl rfl) <| qE rfl <| qT <| qW ⟨_, ?_⟩ ?_
      · (try dsimp only); rw [hss, ← hsb, hg10_1]; first | rfl | (rw [Bool.false_or]; unfold jB; rw [hc7]; rfl)
      · (try dsimp only); exact qX _
    rintro ⟨sb2, hcut⟩
    replace hcut : sb2 = sgS W (i + 1) := hcut
    have hsb2 := hcut
    show Tr _ _ _ ([(1, .pointer (some ⟨b1, 0, none⟩)), (4, .bool sb2), (3, t30), (5, .slice (some ⟨bt, 0, none⟩) 32 32), (6, .int .i64 i), (7, .pointer (some ⟨b7, 0, none⟩))]) ([(b7, .cells [.int .i64 (wG i).1, .int .i64 (wG i).2.1, .int .i64 (wG i).2.2].toArray 143 (0, 0))] :: C' :: [(bt, .cells ((xX 32 (jV W i)).flatMap Qo ++ []).toArray 4 (0, 0))] :: [(b1, .cells v.toArray 41 (0, 0))] :: C :: F) _ _
    refine qO <| q9 (qB rfl) <| q9 (qI rfl rfl) <| q9 (wn rfl rfl) <| qF <| qM rfl (fun hc11 => ?_) (fun hc11 => ?_)
    ·
     have hpr := J8 (i := i) (by omega) hc11
     obtain ⟨lf, hlf⟩ : ∃ lf : Nat, (wG i).2.1 = lf := ⟨(wG i).2.1.toNat, by omega⟩
     have hlt := leafT_some W (show i < 1064 by omega) (by unfold jB; rw [hc7, decide_eq_true hc11]; rfl)
     rw [hlf] at hlt
     refine qK <| qA rfl <| q9 (qB rfl) <| q9 (qI rfl rfl) <| q9 (qx (j := lf) (off := lf * 1) rfl rfl hlf (by omega) (by simp)) ?_
     refine qR (yU (j := lf) (k := 0) (p' := true) JW rfl rfl (Qa (by omega)) rfl rfl rfl) <| qT <| qe <| qJ <| qK <| qA rfl <| q9 (w9 rfl rfl (by omega)) <| qE rfl <| qT <| w6 ⟨(i + 1, t30, C', sb2), ?_⟩ ?_ ?_
     · (try dsimp only); exact ⟨by omega, hs2, hsb2⟩
     · (try dsimp only); omega
     · (try dsimp only); exact (by rw [hlt, ← zo]; exact qX _)
    ·
     have hlt := KQ W (show i < 1064 by omega) (by unfold jB; rw [decide_eq_false hc11]; simp)
     refine qZ <| qe <| qJ <| qK <| qA rfl <| q9 (w9 rfl rfl (by omega)) <| qE rfl <| qT <| w6 ⟨(i + 1, t30, C', sb2), ?_⟩ ?_ ?_
     · (try dsimp only); exact ⟨by omega, hs2, hsb2⟩
     · (try dsimp only); omega
     · (try dsimp only); exact (by rw [hlt]; exact qX _)
   ·
    rw [if_neg (by rw [hc7]; simp), List.append_nil] at hst
    have hlt := KQ W (show i < 1064 by omega) (by unfold jB; rw [hc7]; rfl)
    refine qZ <| qe <| qJ <| qK <| qA rfl <| q9 (w9 rfl rfl (by omega)) <| qE rfl <| qT <| w6 ⟨(i + 1, uo, Co, sb), ?_⟩ ?_ ?_
    · (try dsimp only); exact ⟨by omega, by rw [hst]; exact hsl, by rw [hss, ← hsb]; unfold jB; rw [hc7]; simp⟩
    · (try dsimp only); omega
    · (try dsimp only); exact (by rw [hlt]; exact qX _)
  ·
   refine wa <| qr <| qt <| qh <| qJ <| qN ?_
   obtain rfl : i = 1064 := by omega
   have hfl := xF W 1064 (by omega)
   obtain ⟨pu, cu, hu⟩ := hsl.slice
   have hie : (yQ W 1064).isEmpty = !decide ((0 : Int) < ((yQ W 1064).length : Nat)) := by cases yQ W 1064 <;> simp <;> omega
   refine qK <| q9 (qB rfl) <| q9 (wA rfl) <| q9 (qI rfl (show wY v 10 = some (.bool W.db.stale) by rw [hv]; rfl)) <| qE rfl <| qF <| zY (Γ := {pΓ : (Bool) // (fun (an : Bool) => an = WS W 0) pΓ}) (fun g => (fun (an : Bool) => [(1, .pointer (some ⟨b1, 0, none⟩)), (3, uo), (4, .bool sb), (5, .slice (some ⟨bt, 0, none⟩) 32 32), (9, .bool W.db.stale), (10, .bool an)]) g.1) (fun g => (fun (an : Bool) => Co :: [(bt, .cells ((xX 32 (jV W 1064)).flatMap Qo ++ []).toArray 4 (0, 0))] :: [(b1, .cells v.toArray 41 (0, 0))] :: C :: F) g.1) ?_ ?_
   ·
    refine qK <| qA rfl <| q9 (w8 (by rw [← hu]; rfl)) ?_
    refine q9 (y8 rfl rfl) <| qA rfl <| qY (s := 55) rfl (fun hg14_3 => ?_) (fun hg14_3 => ?_)
    ·
     refine qL rfl rfl rfl <| qL rfl rfl rfl <| qL rfl rfl rfl <| q9 (qq rfl rfl) <| qA rfl <| qL rfl rfl rfl <| qL rfl rfl rfl <| qL rfl rfl rfl <| q9 (qq rfl rfl) <| qA rfl <| qL rfl rfl rfl <| qL rfl rfl rfl <| qL rfl rfl rfl <| q9 (qq rfl rfl) <| qE rfl <| qT <| qW ⟨_, ?_⟩ ?_
     · (try dsimp only); unfold WS Vg; rw [List.take_zero, List.any_nil, Bool.or_false, hie]; first | (rw [decide_eq_true hg14_3]; rfl) | (rw [decide_eq_false hg14_3, hg14_8]; rfl) | (rw [decide_eq_false hg14_3, hg14_8, hg14_13]; rfl)
     · (try dsimp only); exact qX _
    ·
     refine qD rfl rfl (qB rfl) <| qD rfl rfl (wA rfl) <| qD rfl rfl (qI rfl (show wY v 12 = some (.bool W.self.stale) by rw [hv]; rfl)) <| q9 (qU rfl rfl) <| qA rfl <| zy (s := 60) rfl (fun hg14_8 => ?_) (fun hg14_8 => ?_)
     ·
      refine qL rfl rfl rfl <| qL rfl rfl rfl <| qL rfl rfl rfl <| q9 (qq rfl rfl) <| qA rfl <| qL rfl rfl rfl <| qL rfl rfl rfl <| qL rfl rfl rfl <| q9 (qq rfl rfl) <| qE rfl <| qT <| qW ⟨_, ?_⟩ ?_
      · (try dsimp only); unfold WS Vg; rw [List.take_zero, List.any_nil, Bool.or_false, hie]; first | (rw [decide_eq_true hg14_3]; rfl) | (rw [decide_eq_false hg14_3, hg14_8]; rfl) | (rw [decide_eq_false hg14_3, hg14_8, hg14_13]; rfl)
      · (try dsimp only); exact qX _
     ·
      refine qD rfl rfl (qB rfl) <| qD rfl rfl (wA rfl) <| qD rfl rfl (qI rfl (show wY v 8 = some (.bool W.sg.stale) by rw [hv]; rfl)) <| q9 (qU rfl rfl) <| qA rfl <| zy (s := 65) rfl (fun hg14_13 => ?_) (fun hg14_13 => ?_)
      ·
       refine qL rfl rfl rfl <| qL rfl rfl rfl <| qL rfl rfl rfl <| q9 (qq rfl rfl) <| qE rfl <| qT <| qW ⟨_, ?_⟩ ?_
       · (try dsimp only); unfold WS Vg; rw [List.take_zero, List.any_nil, Bool.or_false, hie]; first | (rw [decide_eq_true hg14_3]; rfl) | (rw [decide_eq_false hg14_3, hg14_8]; rfl) | (rw [decide_eq_false hg14_3, hg14_8, hg14_13]; rfl)
       · (try dsimp only); exact qX _
      ·
       refine qD rfl rfl (qB rfl) <| qD rfl rfl (wA rfl) <| qD rfl rfl (qI rfl (show wY v 10 = some (.bool W.db.stale) by rw [hv]; rfl)) <| q9 (qU rfl rfl) <| qE rfl <| qT <| qW ⟨_, ?_⟩ ?_
       · (try dsimp only); unfold WS Vg; rw [List.take_zero, List.any_nil, Bool.or_false, hie]; first | (rw [decide_eq_true hg14_3]; rfl) | (rw [decide_eq_false hg14_3, hg14_8]; rfl) | (rw [decide_eq_false hg14_3, hg14_8, hg14_13]; rfl)
       · (try dsimp only); exact qX _
   rintro ⟨an, hcut⟩
   replace hcut : an = WS W 0 := hcut
   have han := hcut
   show Tr _ _ _ ([(1, .pointer (some ⟨b1, 0, none⟩)), (3, uo), (4, .bool sb), (5, .slice (some ⟨bt, 0, none⟩) 32 32), (9, .bool W.db.stale), (10, .bool an)]) (Co :: [(bt, .cells ((xX 32 (jV W 1064)).flatMap Qo ++ []).toArray 4 (0, 0))] :: [(b1, .cells v.toArray 41 (0, 0))] :: C :: F) _ _
   refine qN <| qO <| qE rfl <| qF <| qg <| wS (Γ := {pΓ : (Nat) × (Value) × (qV) × (Bool) × (Bool) // (fun (k : Nat) (uo : Value) (Co : qV) (db : Bool) (an : Bool) => k ≤ 32 ∧ SlC 65 2 uo (yQ W 1064 ++ kg W k).length ((yQ W 1064 ++ kg W k).flatMap zK) Co ∧ db = dbS W k ∧ an = WS W k) pΓ.1 pΓ.2.1 pΓ.2.2.1 pΓ.2.2.2.1 pΓ.2.2.2.2}) (fun g => (fun (k : Nat) (uo : Value) (Co : qV) (db : Bool) (an : Bool) => [(1, .pointer (some ⟨b1, 0, none⟩)), (3, uo), (4, .bool sb), (5, .slice (some ⟨bt, 0, none⟩) 32 32), (9, .bool db), (10, .bool an), (11, .int .i64 k)]) g.1.1 g.1.2.1 g.1.2.2.1 g.1.2.2.2.1 g.1.2.2.2.2) (fun g => (fun (k : Nat) (uo : Value) (Co : qV) (db : Bool) (an : Bool) => Co :: [(bt, .cells ((xX 32 (jV W 1064)).flatMap Qo ++ []).toArray 4 (0, 0))] :: [(b1, .cells v.toArray 41 (0, 0))] :: C :: F) g.1.1 g.1.2.1 g.1.2.2.1 g.1.2.2.2.1 g.1.2.2.2.2) (fun g => (fun (k : Nat) (uo : Value) (Co : qV) (db : Bool) (an : Bool) => 32 - k) g.1.1 g.1.2.1 g.1.2.2.1 g.1.2.2.2.1 g.1.2.2.2.2) ⟨(0, uo, Co, W.db.stale, an), by dsimp only; exact ⟨by omega, by simpa [kg] using hsl, by simp [dbS], han⟩⟩ (qX _) ?_
   rintro ⟨⟨k, uo, Co, db, an⟩, hloop⟩
   replace hloop : k ≤ 32 ∧ SlC 65 2 uo (yQ W 1064 ++ kg W k).length ((yQ W 1064 ++ kg W k).flatMap zK) Co ∧ db = dbS W k ∧ an = WS W k := hloop
   obtain ⟨hk, hsl2, hdb, han2⟩ := hloop
   show Tr _ _ _ ([(1, .pointer (some ⟨b1, 0, none⟩)), (3, uo), (4, .bool sb), (5, .slice (some ⟨bt, 0, none⟩) 32 32), (9, .bool db), (10, .bool an), (11, .int .i64 k)]) (Co :: [(bt, .cells ((xX 32 (jV W 1064)).flatMap Qo ++ []).toArray 4 (0, 0))] :: [(b1, .cells v.toArray 41 (0, 0))] :: C :: F) _ _
   refine qN <| qO <| qA rfl <| q9 (wJ rfl rfl) <| qF <| qM rfl (fun hc16 => ?_) (fun hc16 => ?_)
   ·
    refine qZ <| qJ <| qN <| qg <| zY (Γ := {pΓ : (Bool) // (fun (b : Bool) => b = Qi W k) pΓ}) (fun g => (fun (b : Bool) => [(1, .pointer (some ⟨b1, 0, none⟩)), (3, uo), (4, .bool sb), (5, .slice (some ⟨bt, 0, none⟩) 32 32), (9, .bool db), (10, .bool an), (11, .int .i64 k), (85, .bool b)]) g.1) (fun g => (fun (b : Bool) => Co :: [(bt, .cells ((xX 32 (jV W 1064)).flatMap Qo ++ []).toArray 4 (0, 0))] :: [(b1, .cells v.toArray 41 (0, 0))] :: C :: F) g.1) ?_ ?_
    ·
     have hst := QL W (show k < 32 by omega)
     have hds := Zk W (show k < 32 by omega)
     have has := Z0 W (show k < 32 by omega)
     have hfl := W9 W k (by omega)
     have hfl0 := xF W 1064 (by omega)
     refine qK <| q9 (qB rfl) <| q9 (qI rfl (show wY v 6 = some (.slice (some ⟨bl, 0, none⟩) 32 32) by rw [hv]; rfl)) <| qA rfl <| q9 (qx (j := k) (off := k * 2) rfl rfl rfl (by omega) (by simp)) ?_
     refine q9 (wA rfl) <| q9 (y0 (j := k) (k := 1) (v := .bool (W.leaves k).stale) zV rfl (show (bl, Obj.cells ((wN W.leaves).flatMap wy ++ []).toArray 38 (0, 0)) ∈ List.flatten _ by rw [hC]; simp) (zF (by omega)) rfl rfl) <| qA rfl <| zy (s := 80) rfl (fun hg18_6 => ?_) (fun hg18_6 => ?_)
     ·
      refine qL rfl rfl rfl <| qL rfl rfl rfl <| qL rfl rfl rfl <| qL rfl rfl rfl <| q9 (qq rfl rfl) <| qT <| qW ⟨_, ?_⟩ ?_
      · (try dsimp only); unfold Qi; first | (rw [hg18_6]; rfl) | (rw [hg18_6, Bool.false_or])
      · (try dsimp only); exact qX _
     ·
      refine qD rfl rfl (qP rfl) <| qD rfl rfl (qP rfl) <| qD rfl rfl (qx (j := k) (off := k * 1) rfl rfl rfl (by omega) (by simp)) ?_
      refine qD rfl rfl (za (j := k) (k := 0) (v := .bool (jV W 1064 k)) JW rfl (Qa (by omega)) rfl rfl) <| q9 (qU rfl rfl) <| qT <| qW ⟨_, ?_⟩ ?_
      · (try dsimp only); unfold Qi; first | (rw [hg18_6]; rfl) | (rw [hg18_6, Bool.false_or])
      · (try dsimp only); exact qX _
    rintro ⟨b, hcut⟩
    replace hcut : b = Qi W k := hcut
    have hb := hcut
    show Tr _ _ _ ([(1, .pointer (some ⟨b1, 0, none⟩)), (3, uo), (4, .bool sb), (5, .slice (some ⟨bt, 0, none⟩) 32 32), (9, .bool db), (10, .bool an), (11, .int .i64 k), (85, .bool b)]) (Co :: [(bt, .cells ((xX 32 (jV W 1064)).flatMap Qo ++ []).toArray 4 (0, 0))] :: [(b1, .cells v.toArray 41 (0, 0))] :: C :: F) _ _
    refine yB rfl (fun hc16 => ?_) (fun hc16 => ?_)
    ·
     refine qO <| qE rfl <| qm <| qE rfl <| qm <| q9 (wQ rfl hvlen) <| qA rfl <| q9 (wM rfl (zk (C) (jO W v C hw 2 k))) <| qF <| yB rfl (fun hc21 => ?_) (fun hc21 => ?_)
     ·
      have hst := QL W (show k < 32 by omega)
      have hfl := W9 W k (by omega)
      have hfl0 := xF W 1064 (by omega)
      rw [← hb, hc16, hc21, if_pos (by rfl)] at hst
      refine qK <| qA rfl <| qA rfl <| q9 (wX rfl) <| qG (wK rfl rfl rfl) ?_
      rintro t92 _ ⟨b92, rfl, rfl⟩
      refine qG (wg (m := 1) (sz := 2) rfl rfl hsl2 (wk (ys := zK (5, (k : Int))) inferInstance rfl rfl) rfl Tryz.underlying77 rfl rfl (by rw [List.length_append]; omega)) ?_
      rintro t93 _ ⟨C', hs', rfl⟩
      refine qE rfl <| qT <| qe <| qJ <| qK <| qA rfl <| q9 (w9 rfl rfl (by omega)) <| qE rfl <| qT <| w6 ⟨(k + 1, t93, C', true, true), ?_⟩ ?_ ?_
      · (try dsimp only); exact ⟨by omega, by rw [hst, ← List.append_assoc, List.length_append, List.flatMap_append]; simpa using hs', by rw [Zk W (show k < 32 by omega), ← hb, hc16]; simp, by rw [Z0 W (show k < 32 by omega), ← hb, hc16]; simp⟩
      · (try dsimp only); omega
      · (try dsimp only); exact qX _
     ·
      refine qZ <| qe <| qJ <| qK <| qA rfl <| q9 (w9 rfl rfl (by omega)) <| qE rfl <| qT <| w6 ⟨(k + 1, uo, Co, true, true), ?_⟩ ?_ ?_
      · (try dsimp only); exact ⟨by omega, by rw [QL W (show k < 32 by omega), ← hb, hc16, hc21]; simpa using hsl2, by rw [Zk W (show k < 32 by omega), ← hb, hc16]; simp, by rw [Z0 W (show k < 32 by omega), ← hb, hc16]; simp⟩
      · (try dsimp only); omega
      · (try dsimp only); exact qX _
    ·
     refine qZ <| qe <| qJ <| qK <| qA rfl <| q9 (w9 rfl rfl (by omega)) <| qE rfl <| qT <| w6 ⟨(k + 1, uo, Co, db, an), ?_⟩ ?_ ?_
     · (try dsimp only); exact ⟨by omega, by rw [QL W (show k < 32 by omega), ← hb, hc16]; simpa using hsl2, by rw [Zk W (show k < 32 by omega), ← hb, hc16, hdb]; simp, by rw [Z0 W (show k < 32 by omega), ← hb, hc16, han2]; simp⟩
     · (try dsimp only); omega
     · (try dsimp only); exact qX _
   ·
    refine wa <| qr <| qt <| qh <| qJ <| zY (Γ := {pΓ : (Value) × (qV) × (List (Int × Int)) // (fun (u1 : Value) (C1 : qV) (l1 : List (Int × Int)) => SlC 65 2 u1 l1.length (l1.flatMap zK) C1 ∧ l1 = yQ W 1064 ++ kg W 32 ++ sgP W ∧ l1.length ≤ 1097) pΓ.1 pΓ.2.1 pΓ.2.2}) (fun g => (fun (u1 : Value) (C1 : qV) (l1 : List (Int × Int)) => [(1, .pointer (some ⟨b1, 0, none⟩)), (3, u1), (9, .bool db), (10, .bool an)]) g.1.1 g.1.2.1 g.1.2.2) (fun g => (fun (u1 : Value) (C1 : qV) (l1 : List (Int × Int)) => C1 :: [(b1, .cells v.toArray 41 (0, 0))] :: C :: F) g.1.1 g.1.2.1 g.1.2.2) ?_ ?_
    ·
     refine zY (Γ := {pΓ : (Bool) × (List (Int × Int)) // (fun (b : Bool) (l0 : List (Int × Int)) => b = (sgS W 1064 && yE W 1 0) ∧ l0 = yQ W 1064 ++ kg W 32 ∧ l0.length ≤ 1096 ∧ SlC 65 2 uo l0.length (l0.flatMap zK) Co ∧ db = dbS W 32 ∧ an = WS W 32) pΓ.1 pΓ.2}) (fun g => (fun (b : Bool) (l0 : List (Int × Int)) => [(1, .pointer (some ⟨b1, 0, none⟩)), (3, uo), (9, .bool db), (10, .bool an), (98, .bool b)]) g.1.1 g.1.2) (fun g => (fun (b : Bool) (l0 : List (Int × Int)) => Co :: [(b1, .cells v.toArray 41 (0, 0))] :: C :: F) g.1.1 g.1.2) ?_ ?_
     ·
      obtain rfl : k = 32 := by omega
      have hfl := W9 W 32 (by omega)
      have hfl0 := xF W 1064 (by omega)
      obtain ⟨l0, hl0⟩ : ∃ l0, yQ W 1064 ++ kg W 32 = l0 := ⟨_, rfl⟩
      have hll0 : l0.length ≤ 1096 := by rw [← hl0, List.length_append]; omega
      rw [hl0] at hsl2
      refine qK <| qA rfl <| qA rfl <| zy (s := 95) rfl (fun hg23_1 => ?_) (fun hg23_1 => ?_)
      ·
       refine qD rfl rfl (wQ rfl hvlen) <| qD rfl rfl (wM rfl (zk (C) (jO W v C hw 1 0))) <| q9 (qq rfl rfl) <| qT <| qW ⟨(_, l0), ?_⟩ ?_
       ·
        try dsimp only
        refine ⟨?_, hl0.symm, hll0, hsl2, hdb, han2⟩
        rw [← hsb]; rw [hg23_1]; first | rfl | simp
       · (try dsimp only); exact qX _
      ·
       refine qL rfl rfl rfl <| qL rfl rfl rfl <| q9 (qU rfl rfl) <| qT <| qW ⟨(_, l0), ?_⟩ ?_
       ·
        try dsimp only
        refine ⟨?_, hl0.symm, hll0, hsl2, hdb, han2⟩
        rw [← hsb]; rw [hg23_1]; first | rfl | simp
       · (try dsimp only); exact qX _
     rintro ⟨⟨b, l0⟩, hcut⟩
     replace hcut : b = (sgS W 1064 && yE W 1 0) ∧ l0 = yQ W 1064 ++ kg W 32 ∧ l0.length ≤ 1096 ∧ SlC 65 2 uo l0.length (l0.flatMap zK) Co ∧ db = dbS W 32 ∧ an = WS W 32 := hcut
     obtain ⟨hb3, hl0, hll0, hsl2, hdb3, han3⟩ := hcut
     show Tr _ _ _ ([(1, .pointer (some ⟨b1, 0, none⟩)), (3, uo), (9, .bool db), (10, .bool an), (98, .bool b)]) (Co :: [(b1, .cells v.toArray 41 (0, 0))] :: C :: F) _ _
     refine yB rfl (fun hc16 => ?_) (fun hc16 => ?_)
     ·
      refine qK <| qA rfl <| q9 (wX rfl) <| qG (wK rfl rfl rfl) ?_
      rintro t101 _ ⟨b101, rfl, rfl⟩
      refine qG (wg (m := 1) (sz := 2) rfl rfl hsl2 (wk (ys := zK (3, 0)) inferInstance rfl rfl) rfl Tryz.underlying77 rfl rfl (by omega)) ?_
      rintro t102 _ ⟨C', hs', rfl⟩
      refine qE rfl <| qT <| qW ⟨(t102, C', l0 ++ [(3, 0)]), ?_⟩ ?_
      · (try dsimp only); exact ⟨by rw [List.length_append, List.flatMap_append]; simpa using hs', by rw [hl0]; unfold sgP; rw [if_pos (hb3 ▸ hc16)], by simp; omega⟩
      · (try dsimp only); exact qX _
     ·
      refine qZ <| qW ⟨(uo, Co, l0), ?_⟩ ?_
      · (try dsimp only); exact ⟨hsl2, by rw [hl0]; unfold sgP; rw [if_neg (by rw [← hb3, hc16]; simp), List.append_nil], by omega⟩
      · (try dsimp only); exact qX _
    rintro ⟨⟨u1, C1, l1⟩, hcut⟩
    replace hcut : SlC 65 2 u1 l1.length (l1.flatMap zK) C1 ∧ l1 = yQ W 1064 ++ kg W 32 ++ sgP W ∧ l1.length ≤ 1097 := hcut
    obtain ⟨hs1, hl1, hll1⟩ := hcut
    show Tr _ _ _ ([(1, .pointer (some ⟨b1, 0, none⟩)), (3, u1), (9, .bool db), (10, .bool an)]) (C1 :: [(b1, .cells v.toArray 41 (0, 0))] :: C :: F) _ _
    refine zY (Γ := {pΓ : (Value) × (qV) × (List (Int × Int)) // (fun (u2 : Value) (C2 : qV) (l2 : List (Int × Int)) => SlC 65 2 u2 l2.length (l2.flatMap zK) C2 ∧ l2 = yQ W 1064 ++ kg W 32 ++ sgP W ++ dbP W ∧ l2.length ≤ 1098) pΓ.1 pΓ.2.1 pΓ.2.2}) (fun g => (fun (u2 : Value) (C2 : qV) (l2 : List (Int × Int)) => [(1, .pointer (some ⟨b1, 0, none⟩)), (3, u2), (10, .bool an)]) g.1.1 g.1.2.1 g.1.2.2) (fun g => (fun (u2 : Value) (C2 : qV) (l2 : List (Int × Int)) => C2 :: [(b1, .cells v.toArray 41 (0, 0))] :: C :: F) g.1.1 g.1.2.1 g.1.2.2) ?_ ?_
    ·
     refine zY (Γ := {pΓ : (Bool) // (fun (b : Bool) => b = (dbS W 32 && yE W 2 (-1))) pΓ}) (fun g => (fun (b : Bool) => [(1, .pointer (some ⟨b1, 0, none⟩)), (3, u1), (10, .bool an), (107, .bool b)]) g.1) (fun g => (fun (b : Bool) => C1 :: [(b1, .cells v.toArray 41 (0, 0))] :: C :: F) g.1) ?_ ?_
     ·
      refine qK <| qA rfl <| qA rfl <| zy (s := 104) rfl (fun hg25_1 => ?_) (fun hg25_1 => ?_)
      ·
       refine qD rfl rfl (wQ rfl hvlen) <| qD rfl rfl (wM rfl (zk (C) (jO W v C hw 2 (-1)))) <| q9 (qq rfl rfl) <| qT <| qW ⟨_, ?_⟩ ?_
       ·
        try dsimp only
        have e : dbS W 32 = db := by rw [hdb]; congr 1; omega
        rw [e]; rw [hg25_1]; first | rfl | simp
       · (try dsimp only); exact qX _
      ·
       refine qL rfl rfl rfl <| qL rfl rfl rfl <| q9 (qU rfl rfl) <| qT <| qW ⟨_, ?_⟩ ?_
       ·
        try dsimp only
        have e : dbS W 32 = db := by rw [hdb]; congr 1; omega
        rw [e]; rw [hg25_1]; first | rfl | simp
       · (try dsimp only); exact qX _
     rintro ⟨b, hcut⟩
     replace hcut : b = (dbS W 32 && yE W 2 (-1)) := hcut
     have hb4 := hcut
     show Tr _ _ _ ([(1, .pointer (some ⟨b1, 0, none⟩)), (3, u1), (10, .bool an), (107, .bool b)]) (C1 :: [(b1, .cells v.toArray 41 (0, 0))] :: C :: F) _ _
     refine yB rfl (fun hc16 => ?_) (fun hc16 => ?_)
     ·
      refine qK <| qA rfl <| q9 (wX rfl) <| qG (wK rfl rfl rfl) ?_
      rintro t110 _ ⟨b110, rfl, rfl⟩
      refine qG (wg (m := 1) (sz := 2) rfl rfl hs1 (wk (ys := zK (4, 0)) inferInstance rfl rfl) rfl Tryz.underlying77 rfl rfl (by omega)) ?_
      rintro t111 _ ⟨C', hs', rfl⟩
      refine qE rfl <| qT <| qW ⟨(t111, C', l1 ++ [(4, 0)]), ?_⟩ ?_
      · (try dsimp only); exact ⟨by rw [List.length_append, List.flatMap_append]; simpa using hs', by rw [hl1]; unfold dbP; rw [if_pos (hb4 ▸ hc16)], by simp; omega⟩
      · (try dsimp only); exact qX _
     ·
      refine qZ <| qW ⟨(u1, C1, l1), ?_⟩ ?_
      · (try dsimp only); exact ⟨hs1, by rw [hl1]; unfold dbP; rw [if_neg (by rw [← hb4, hc16]; simp), List.append_nil], by omega⟩
      · (try dsimp only); exact qX _
    rintro ⟨⟨u2, C2, l2⟩, hcut⟩
    replace hcut : SlC 65 2 u2 l2.length (l2.flatMap zK) C2 ∧ l2 = yQ W 1064 ++ kg W 32 ++ sgP W ++ dbP W ∧ l2.length ≤ 1098 := hcut
    obtain ⟨hs2, hl2, hll2⟩ := hcut
    show Tr _ _ _ ([(1, .pointer (some ⟨b1, 0, none⟩)), (3, u2), (10, .bool an)]) (C2 :: [(b1, .cells v.toArray 41 (0, 0))] :: C :: F) _ _
    refine zY (Γ := {pΓ : (Value) × (qV) // (fun (u3 : Value) (C3 : qV) => SlC 65 2 u3 (zl W).length ((zl W).flatMap zK) C3) pΓ.1 pΓ.2}) (fun g => (fun (u3 : Value) (C3 : qV) => [(3, u3)]) g.1.1 g.1.2) (fun g => (fun (u3 : Value) (C3 : qV) => C3 :: [(b1, .cells v.toArray 41 (0, 0))] :: C :: F) g.1.1 g.1.2) ?_ ?_
    ·
     refine qO <| qA rfl <| qF <| yB rfl (fun hc27 => ?_) (fun hc27 => ?_)
     ·
      refine qK <| qA rfl <| q9 (wX rfl) <| qG (wK rfl rfl rfl) ?_
      rintro t115 _ ⟨b115, rfl, rfl⟩
      refine qG (wg (m := 1) (sz := 2) rfl rfl hs2 (wk (ys := zK (2, 0)) inferInstance rfl rfl) rfl Tryz.underlying77 rfl rfl (by omega)) ?_
      rintro t116 _ ⟨C', hs', rfl⟩
      refine qE rfl <| qT <| qW ⟨(t116, C'), ?_⟩ ?_
      ·
       try dsimp only
       have e : zl W = l2 ++ [(2, 0)] := by rw [hl2]; unfold zl YS; rw [if_pos (by rw [show WS W 32 = an from by rw [han2]; congr 1; omega]; exact hc27)]
       rw [e, List.length_append, List.flatMap_append]; simpa using hs'
      · (try dsimp only); exact qX _
     ·
      refine qZ <| qW ⟨(u2, C2), ?_⟩ ?_
      ·
       try dsimp only
       have e : zl W = l2 := by rw [hl2]; unfold zl YS; rw [if_neg (by rw [show WS W 32 = an from by rw [han2]; congr 1; omega, hc27]; simp), List.append_nil]
       rw [e]; exact hs2
      · (try dsimp only); exact qX _
    rintro ⟨⟨u3, C3⟩, hcut⟩
    replace hcut : SlC 65 2 u3 (zl W).length ((zl W).flatMap zK) C3 := hcut
    have hs3 := hcut
    show Tr _ _ _ ([(3, u3)]) (C3 :: [(b1, .cells v.toArray 41 (0, 0))] :: C :: F) _ _
    refine qO <| qA rfl <| qE rfl <| qF <| qy <| wC (C3 :: C :: F) (.inl rfl) rfl (qu rfl) ?_
    exact ⟨C3, hs3, rfl⟩
theorem VL {k : Int × Int} (h : qw k) (e : k.1 = 1) : ∃ i : Nat, k.2 = i ∧ i < 1064 := by
  rcases h with ⟨-, h1, h2⟩ | h | h | h | ⟨h, -⟩
  · exact ⟨k.2.toNat, by omega, by omega⟩
  all_goals first | (rw [h] at e; exact absurd e (by decide)) | omega
theorem VK {k : Int × Int} (h : qw k) (e : k.1 = 5) : ∃ i : Nat, k.2 = i ∧ i < 32 := by
  rcases h with ⟨h, -⟩ | h | h | h | ⟨-, h1, h2⟩
  · omega
  · rw [h] at e; exact absurd e (by decide)
  · rw [h] at e; exact absurd e (by decide)
  · rw [h] at e; exact absurd e (by decide)
  · exact ⟨k.2.toNat, by omega, by omega⟩
def RefC0 (ba bl : Nat) (W : RS) (v : List Value) (C : qV) : Prop := ∃ pg gn cg, v = kV W ba bl (.slice pg gn cg) ∧
  C = [(ba, .cells ((z7 W.all).flatMap wz ++ []).toArray 125 (0, 0)), (bl, .cells ((wN W.leaves).flatMap wy ++ []).toArray 38 (0, 0))]
theorem RefC0.len {W : RS} {v : List Value} {C : qV} (h : RefC0 ba bl W v C) : v.length = 14 := by
  obtain ⟨pg, gn, cg, rfl, rfl⟩ := h; rfl
theorem RefC0.one {W : RS} {v : List Value} {C : qV} (h : RefC0 ba bl W v C) : v.all (·.oneCell') = true := by
  obtain ⟨pg, gn, cg, rfl, rfl⟩ := h; rfl
theorem RefC.split {W : RS} {v : List Value} {C : qV} (h : RefC ba bl W v C) : ∃ C0 Cg pg cg, RefC0 ba bl W v C0 ∧ C = C0 ++ Cg ∧ v = kV W ba bl (.slice pg W.gone.length cg) ∧ SlC 3 1 (.slice pg W.gone.length cg) W.gone.length (iV W.gone) Cg := by
  obtain ⟨ug, Cg, rfl, hs, rfl⟩ := h
  obtain ⟨pg, cg, rfl⟩ := hs.slice
  exact ⟨_, Cg, pg, cg, ⟨_, _, _, rfl, rfl⟩, rfl, rfl, hs⟩
def qn (W : RS) (k : Int × Int) : Int :=
  if k.1 = 1 then (W.all k.2).at_ else if k.1 = 5 then (W.leaves k.2).at_ else if k.1 = 3 then W.sg.at_ else if k.1 = 4 then W.db.at_ else W.self.at_
theorem ZF (W : RS) (v : List Value) (C : qV) (hw : RefC0 ba bl W v C) (k : Int × Int) (hk : qw k) :
    FnT Tryz.prog w0 20 #[.agg v.toArray, .agg (zK k).toArray] (C :: F) (fun v L' => v = .int .i64 (qn W k) ∧ L' = C :: F) := by
  obtain ⟨pg, gn, cg, hv, hC⟩ := hw
  rw [show zK k = [.int .i64 k.1, .int .i64 k.2] from rfl]
  refine qi (E0 := [(0, _), (1, _)]) (N := 38) Tryz.func20 rfl rfl rfl rfl ?_
  refine qO <| qG (wq rfl) ?_
  rintro t2 _ ⟨b2, rfl, rfl⟩
  refine qG (wq rfl) ?_
  rintro t3 _ ⟨b3, rfl, rfl⟩
  refine qE rfl <| qF <| qN <| qO <| q9 (qB rfl) <| q9 (qI rfl rfl) <| qF <| qg <| qO <| q9 (wn rfl rfl) <| qE rfl <| qF <| qM rfl (fun hc2 => ?_) (fun hc2 => ?_)
  ·
   refine qN ?_
   obtain ⟨i, hi, hlt⟩ := VL hk hc2
   refine qK <| q9 (qB rfl) <| q9 (qI rfl (show wY v 5 = some (.slice (some ⟨ba, 0, none⟩) 1064 1064) by rw [hv]; rfl)) <| q9 (qB rfl) <| q9 (qI rfl rfl) <| q9 (qx (j := i) (off := i * 131) rfl rfl hi (by omega) (by simp)) ?_
   refine q9 (wA rfl) <| q9 (y0 (j := i) (k := 1) (v := .int .i64 (W.all i).at_) zh rfl (show (ba, Obj.cells ((z7 W.all).flatMap wz ++ []).toArray 125 (0, 0)) ∈ List.flatten _ by rw [hC]; simp) (yI (by omega)) rfl rfl) <| qE rfl <| qF <| qy <| wH <| qv <| wC (C :: F) (.inl rfl) rfl (qu rfl) ?_
   exact ⟨by unfold qn; rw [if_pos hc2, hi], rfl⟩
  ·
   refine qO <| q9 (wn rfl rfl) <| qE rfl <| qF <| qM rfl (fun hc4 => ?_) (fun hc4 => ?_)
   ·
    refine qN ?_
    obtain ⟨i, hi, hlt⟩ := VK hk hc4
    refine qK <| q9 (qB rfl) <| q9 (qI rfl (show wY v 6 = some (.slice (some ⟨bl, 0, none⟩) 32 32) by rw [hv]; rfl)) <| q9 (qB rfl) <| q9 (qI rfl rfl) <| q9 (qx (j := i) (off := i * 2) rfl rfl hi (by omega) (by simp)) ?_
    refine q9 (wA rfl) <| q9 (y0 (j := i) (k := 0) (v := .int .i64 (W.leaves i).at_) zV rfl (show (bl, Obj.cells ((wN W.leaves).flatMap wy ++ []).toArray 38 (0, 0)) ∈ List.flatten _ by rw [hC]; simp) (zF (by omega)) rfl rfl) <| qE rfl <| qF <| qy <| wH <| qv <| wC (C :: F) (.inl rfl) rfl (qu rfl) ?_
    exact ⟨by unfold qn; rw [if_neg hc2, if_pos hc4, hi], rfl⟩
   ·
    refine qO <| q9 (wn rfl rfl) <| qE rfl <| qF <| qM rfl (fun hc6 => ?_) (fun hc6 => ?_)
    ·
     refine qO <| q9 (qB rfl) <| q9 (wA rfl) <| q9 (qI rfl (show wY v 7 = some (.int .i64 W.sg.at_) by rw [hv]; rfl)) <| qE rfl <| qF <| qy <| wH <| qv <| wC (C :: F) (.inl rfl) rfl (qu rfl) ?_
     exact ⟨by unfold qn; rw [if_neg hc2, if_neg hc4, if_pos hc6], rfl⟩
    ·
     refine qO <| q9 (wn rfl rfl) <| qE rfl <| qF <| qM rfl (fun hc8 => ?_) (fun hc8 => ?_)
     ·
      refine qO <| q9 (qB rfl) <| q9 (wA rfl) <| q9 (qI rfl (show wY v 9 = some (.int .i64 W.db.at_) by rw [hv]; rfl)) <| qE rfl <| qF <| qy <| wH <| qv <| wC (C :: F) (.inl rfl) rfl (qu rfl) ?_
      exact ⟨by unfold qn; rw [if_neg hc2, if_neg hc4, if_neg hc6, if_pos hc8], rfl⟩
     ·
      refine qZ <| qe <| qJ <| qO <| q9 (qB rfl) <| q9 (wA rfl) <| q9 (qI rfl (show wY v 11 = some (.int .i64 W.self.at_) by rw [hv]; rfl)) <| qE rfl <| qF <| qy <| wC (C :: F) (.inl rfl) rfl (qu rfl) ?_
      exact ⟨by unfold qn; rw [if_neg hc2, if_neg hc4, if_neg hc6, if_neg hc8], rfl⟩
theorem J2 (W : RS) (v : List Value) (C : qV) (hw : RefC ba bl W v C) (k : Int × Int) (hk : qw k) :
    FnT Tryz.prog w0 20 #[.agg v.toArray, .agg (zK k).toArray] (C :: F) (fun v L' => v = .int .i64 (qn W k) ∧ L' = C :: F) := by
  obtain ⟨C0, Cg, pg, cg, h0, rfl, -, -⟩ := hw.split
  exact Qu (ZF (F := Cg :: F) W v C0 h0 k hk) (by simp)
def kO (W : RS) (k : Int × Int) (a : Int) : RS :=
  if k.1 = 1 then { W with all := upd W.all k.2 { W.all k.2 with at_ := a, fresh := false } }
  else if k.1 = 5 then { W with leaves := upd W.leaves k.2 ⟨a, false⟩ }
  else if k.1 = 3 then { W with sg := ⟨a, false⟩ }
  else if k.1 = 4 then { W with db := ⟨a, false⟩ }
  else { W with self := ⟨a, false⟩ }
theorem Qc (W : RS) (v : List Value) (C : qV) (hw : RefC0 ba bl W v C) (k : Int × Int) (hk : qw k) (a : Int) :
    FnT Tryz.prog w0 76 #[.agg v.toArray, .agg (zK k).toArray, .int .i64 a] (C :: F) (fun v L' => ∃ l C', v = .agg l.toArray ∧ RefC0 ba bl (kO W k a) l C' ∧ L' = C' :: F) := by
  obtain ⟨pg, gn, cg, rfl, rfl⟩ := hw
  unfold kV
  rw [show zK k = [.int .i64 k.1, .int .i64 k.2] from rfl]
  refine FnT.pre (L' := [(ba, .cells ((z7 W.all).flatMap wz ++ []).toArray 125 (0, 0))] :: [(bl, .cells ((wN W.leaves).flatMap wy ++ []).toArray 38 (0, 0))] :: F) ?_ (wZ (by simp))
  refine qi (E0 := [(0, _), (1, _), (2, _)]) (N := 47) Tryz.func76 rfl rfl rfl rfl ?_
  refine qO <| qG (wq rfl) ?_
  rintro t3 _ ⟨b3, rfl, rfl⟩
  refine qG (wq rfl) ?_
  rintro t4 _ ⟨b4, rfl, rfl⟩
  refine qG (qj) ?_
  rintro t6 _ ⟨b6, rfl, rfl⟩
  refine qF <| zY (Γ := {pΓ : (RS) × (List Value) // (fun (X : RS) (v1 : List Value) => X = kO W k a ∧ v1 = kV X ba bl (.slice pg gn cg)) pΓ.1 pΓ.2}) (fun g => (fun (X : RS) (v1 : List Value) => [(3, .pointer (some ⟨b3, 0, none⟩)), (6, .pointer (some ⟨b6, 0, none⟩))]) g.1.1 g.1.2) (fun g => (fun (X : RS) (v1 : List Value) => [(b3, .cells v1.toArray 41 (0, 0))] :: [(b6, .cells node0V.toArray 41 (0, 0))] :: [(ba, .cells ((z7 X.all).flatMap wz ++ []).toArray 125 (0, 0))] :: [(bl, .cells ((wN X.leaves).flatMap wy ++ []).toArray 38 (0, 0))] :: F) g.1.1 g.1.2) ?_ ?_
  ·
   refine qO <| q9 (qB rfl) <| q9 (qI rfl rfl) <| qF <| qg <| qO <| q9 (wn rfl rfl) <| qE rfl <| qF <| qM rfl (fun hc3 => ?_) (fun hc3 => ?_)
   ·
    refine qN ?_
    obtain ⟨i, hi, hlt⟩ := VL hk hc3
    refine qK <| q9 (qB rfl) <| q9 (qI rfl rfl) <| q9 (qB rfl) <| q9 (qI rfl rfl) <| qA rfl <| q9 (qx (j := i) (off := i * 131) rfl rfl hi (by omega) (by simp)) ?_
    refine q9 (wA rfl) <| qR (yU (j := i) (k := 1) (p' := { W.all i with at_ := a }) zh rfl rfl (yI (by omega)) rfl rfl rfl) <| qT ?_
    rw [show (z7 W.all).set i { W.all i with at_ := a } = z7 (upd W.all (i : Int) { W.all i with at_ := a }) from zo]
    refine qJ <| qK <| q9 (qB rfl) <| q9 (qI rfl rfl) <| q9 (qB rfl) <| q9 (qI rfl rfl) <| q9 (qx (j := i) (off := i * 131) rfl rfl hi (by omega) (by simp)) ?_
    refine q9 (wA rfl) <| qR (yU (j := i) (k := 2) (p := { W.all i with at_ := a }) (p' := { W.all i with at_ := a, fresh := false }) zh rfl rfl (by rw [yI (by omega), zQ]) rfl rfl rfl) ?_
    refine qT <| qe <| qW ⟨(kO W k a, kV (kO W k a) ba bl (.slice pg gn cg)), ?_⟩ ?_
    · (try dsimp only); exact ⟨rfl, rfl⟩
    · (try dsimp only); exact (by rw [show ∀ (f : Int → Blk) (b : Blk), (z7 f).set i b = z7 (upd f (i : Int) b) from fun _ _ => zo, Jk]; unfold kV kO; rw [if_pos hc3, hi]; exact qX _)
   ·
    refine qO <| q9 (wn rfl rfl) <| qE rfl <| qF <| qM rfl (fun hc6 => ?_) (fun hc6 => ?_)
    ·
     obtain ⟨i, hi, hlt⟩ := VK hk hc6
     refine qK <| q9 (qB rfl) <| q9 (qI rfl rfl) <| q9 (qB rfl) <| q9 (qI rfl rfl) <| qA rfl <| q9 (wX rfl) <| q9 (qx (j := i) (off := i * 2) rfl rfl hi (by omega) (by simp)) ?_
     refine qR (zH (j := i) (p' := ⟨a, false⟩) zV rfl rfl rfl (zF (by omega)) rfl rfl) <| qT <| qe <| qW ⟨(kO W k a, kV (kO W k a) ba bl (.slice pg gn cg)), ?_⟩ ?_
     · (try dsimp only); exact ⟨rfl, rfl⟩
     · (try dsimp only); exact (by rw [show ∀ (f : Int → yF) (b : yF), (wN f).set i b = wN (upd f (i : Int) b) from fun _ _ => zo]; unfold kV kO; rw [if_neg hc3, if_pos hc6, hi]; exact qX _)
    ·
     refine qO <| q9 (wn rfl rfl) <| qE rfl <| qF <| qM rfl (fun hc8 => ?_) (fun hc8 => ?_)
     ·
      refine qK <| qA rfl <| q9 (wX rfl) <| q9 (qB rfl) <| qR (wc rfl rfl rfl rfl) <| qT <| qe <| qW ⟨(kO W k a, kV (kO W k a) ba bl (.slice pg gn cg)), ?_⟩ ?_
      · (try dsimp only); exact ⟨rfl, rfl⟩
      · (try dsimp only); exact (by unfold kV kO; rw [if_neg hc3, if_neg hc6, if_pos hc8]; exact qX _)
     ·
      refine qO <| q9 (wn rfl rfl) <| qE rfl <| qF <| qM rfl (fun hc10 => ?_) (fun hc10 => ?_)
      ·
       refine qK <| qA rfl <| q9 (wX rfl) <| q9 (qB rfl) <| qR (wc rfl rfl rfl rfl) <| qT <| qe <| qW ⟨(kO W k a, kV (kO W k a) ba bl (.slice pg gn cg)), ?_⟩ ?_
       · (try dsimp only); exact ⟨rfl, rfl⟩
       · (try dsimp only); exact (by unfold kV kO; rw [if_neg hc3, if_neg hc6, if_neg hc8, if_pos hc10]; exact qX _)
      ·
       refine qK <| qA rfl <| q9 (wX rfl) <| q9 (qB rfl) <| qR (wc rfl rfl rfl rfl) <| qT <| qe <| qW ⟨(kO W k a, kV (kO W k a) ba bl (.slice pg gn cg)), ?_⟩ ?_
       · (try dsimp only); exact ⟨rfl, rfl⟩
       · (try dsimp only); exact (by unfold kV kO; rw [if_neg hc3, if_neg hc6, if_neg hc8, if_neg hc10]; exact qX _)
  rintro ⟨⟨X, v1⟩, hcut⟩
  replace hcut : X = kO W k a ∧ v1 = kV X ba bl (.slice pg gn cg) := hcut
  obtain ⟨hX, hv1⟩ := hcut
  show Tr _ _ _ ([(3, .pointer (some ⟨b3, 0, none⟩)), (6, .pointer (some ⟨b6, 0, none⟩))]) ([(b3, .cells v1.toArray 41 (0, 0))] :: [(b6, .cells node0V.toArray 41 (0, 0))] :: [(ba, .cells ((z7 X.all).flatMap wz ++ []).toArray 125 (0, 0))] :: [(bl, .cells ((wN X.leaves).flatMap wy ++ []).toArray 38 (0, 0))] :: F) _ _
  refine qO <| q9 (wQ rfl (by rw [hv1]; rfl)) ?_
  refine qR (qo rfl rfl rfl (by rw [hv1]; rfl) (by rw [hv1]; rfl)) ?_
  refine qT <| zN (L' := [(b6, .cells v1.toArray 41 (0, 0))] :: ((ba, .cells ((z7 X.all).flatMap wz ++ []).toArray 125 (0, 0)) :: (bl, .cells ((wN X.leaves).flatMap wy ++ []).toArray 38 (0, 0)) :: []) :: F) (fun w hw => wZ (by simp) w hw.tail) ?_
  refine qJ <| qy <| wC (((ba, .cells ((z7 X.all).flatMap wz ++ []).toArray 125 (0, 0)) :: (bl, .cells ((wN X.leaves).flatMap wy ++ []).toArray 38 (0, 0)) :: []) :: F) (.inl rfl) rfl (zR rfl (by rw [hv1]; rfl)) ?_
  exact ⟨_, _, rfl, ⟨_, _, _, by rw [← hX]; exact hv1, by rw [← hX]⟩, rfl⟩
def yS (W : RS) (k : Int × Int) : RS :=
  if k.1 = 1 then { W with all := upd W.all k.2 { W.all k.2 with fresh := true } }
  else if k.1 = 5 then { W with leaves := upd W.leaves k.2 ⟨(W.leaves k.2).at_, true⟩ }
  else if k.1 = 3 then { W with sg := ⟨W.sg.at_, true⟩ }
  else if k.1 = 4 then { W with db := ⟨W.db.at_, true⟩ }
  else { W with self := ⟨W.self.at_, true⟩ }
theorem XR (W : RS) (v : List Value) (C : qV) (hw : RefC ba bl W v C) (k : Int × Int) (hk : qw k) :
    FnT Tryz.prog w0 34 #[.agg v.toArray, .agg (zK k).toArray] (C :: F) (fun v L' => ∃ l C', v = .agg l.toArray ∧ RefC ba bl (yS W k) l C' ∧ L' = C' :: F) := by
  obtain ⟨pg, cg, Cg, rfl, hs, rfl⟩ := hw.at
  unfold kV
  rw [show zK k = [.int .i64 k.1, .int .i64 k.2] from rfl]
  refine FnT.pre (L' := [(ba, .cells ((z7 W.all).flatMap wz ++ []).toArray 125 (0, 0))] :: [(bl, .cells ((wN W.leaves).flatMap wy ++ []).toArray 38 (0, 0))] :: Cg :: F) ?_ (wZ (by simp))
  refine qi (E0 := [(0, _), (1, _)]) (N := 34) Tryz.func34 rfl rfl rfl rfl ?_
  refine qO <| qG (wq rfl) ?_
  rintro t2 _ ⟨b2, rfl, rfl⟩
  refine qG (wq rfl) ?_
  rintro t3 _ ⟨b3, rfl, rfl⟩
  refine qG (qj) ?_
  rintro t4 _ ⟨b4, rfl, rfl⟩
  refine qF <| zY (Γ := {pΓ : (RS) × (List Value) // (fun (X : RS) (v1 : List Value) => X = yS W k ∧ v1 = kV X ba bl (.slice pg W.gone.length cg)) pΓ.1 pΓ.2}) (fun g => (fun (X : RS) (v1 : List Value) => [(2, .pointer (some ⟨b2, 0, none⟩)), (4, .pointer (some ⟨b4, 0, none⟩))]) g.1.1 g.1.2) (fun g => (fun (X : RS) (v1 : List Value) => [(b2, .cells v1.toArray 41 (0, 0))] :: [(b4, .cells node0V.toArray 41 (0, 0))] :: [(ba, .cells ((z7 X.all).flatMap wz ++ []).toArray 125 (0, 0))] :: [(bl, .cells ((wN X.leaves).flatMap wy ++ []).toArray 38 (0, 0))] :: Cg :: F) g.1.1 g.1.2) ?_ ?_
  ·
   refine qO <| q9 (qB rfl) <| q9 (qI rfl rfl) <| qF <| qg <| qO <| q9 (wn rfl rfl) <| qE rfl <| qF <| qM rfl (fun hc3 => ?_) (fun hc3 => ?_)
   ·
    obtain ⟨i, hi, hlt⟩ := VL hk hc3
    refine qK <| q9 (qB rfl) <| q9 (qI rfl rfl) <| q9 (qB rfl) <| q9 (qI rfl rfl) <| q9 (qx (j := i) (off := i * 131) rfl rfl hi (by omega) (by simp)) ?_
    refine q9 (wA rfl) <| qR (yU (j := i) (k := 2) (p' := { W.all i with fresh := true }) zh rfl rfl (yI (by omega)) rfl rfl rfl) <| qT <| qe <| qW ⟨(yS W k, kV (yS W k) ba bl (.slice pg W.gone.length cg)), ?_⟩ ?_
    · (try dsimp only); exact ⟨rfl, rfl⟩
    · (try dsimp only); exact (by rw [show ∀ (f : Int → Blk) (b : Blk), (z7 f).set i b = z7 (upd f (i : Int) b) from fun _ _ => zo]; unfold kV yS; rw [if_pos hc3, hi]; exact qX _)
   ·
    refine qO <| q9 (wn rfl rfl) <| qE rfl <| qF <| qM rfl (fun hc5 => ?_) (fun hc5 => ?_)
    ·
     obtain ⟨i, hi, hlt⟩ := VK hk hc5
     refine qK <| q9 (qB rfl) <| q9 (qI rfl rfl) <| q9 (qB rfl) <| q9 (qI rfl rfl) <| q9 (qx (j := i) (off := i * 2) rfl rfl hi (by omega) (by simp)) ?_
     refine q9 (wA rfl) <| qR (yU (j := i) (k := 1) (p' := ⟨(W.leaves i).at_, true⟩) zV rfl rfl (zF (by omega)) rfl rfl rfl) <| qT <| qe <| qW ⟨(yS W k, kV (yS W k) ba bl (.slice pg W.gone.length cg)), ?_⟩ ?_
     · (try dsimp only); exact ⟨rfl, rfl⟩
     · (try dsimp only); exact (by rw [show ∀ (f : Int → yF) (b : yF), (wN f).set i b = wN (upd f (i : Int) b) from fun _ _ => zo]; unfold kV yS; rw [if_neg hc3, if_pos hc5, hi]; exact qX _)
    ·
     refine qO <| q9 (wn rfl rfl) <| qE rfl <| qF <| qM rfl (fun hc7 => ?_) (fun hc7 => ?_)
     ·
      refine qK <| q9 (qB rfl) <| q9 (wA rfl) <| qR (wu rfl rfl rfl) <| qT <| qe <| qW ⟨(yS W k, kV (yS W k) ba bl (.slice pg W.gone.length cg)), ?_⟩ ?_
      · (try dsimp only); exact ⟨rfl, rfl⟩
      · (try dsimp only); exact (by unfold kV yS; rw [if_neg hc3, if_neg hc5, if_pos hc7]; exact qX _)
     ·
      refine qO <| q9 (wn rfl rfl) <| qE rfl <| qF <| qM rfl (fun hc9 => ?_) (fun hc9 => ?_)
      ·
       refine qK <| q9 (qB rfl) <| q9 (wA rfl) <| qR (wu rfl rfl rfl) <| qT <| qe <| qW ⟨(yS W k, kV (yS W k) ba bl (.slice pg W.gone.length cg)), ?_⟩ ?_
       · (try dsimp only); exact ⟨rfl, rfl⟩
       · (try dsimp only); exact (by unfold kV yS; rw [if_neg hc3, if_neg hc5, if_neg hc7, if_pos hc9]; exact qX _)
      ·
       refine qK <| q9 (qB rfl) <| q9 (wA rfl) <| qR (wu rfl rfl rfl) <| qT <| qe <| qW ⟨(yS W k, kV (yS W k) ba bl (.slice pg W.gone.length cg)), ?_⟩ ?_
       · (try dsimp only); exact ⟨rfl, rfl⟩
       · (try dsimp only); exact (by unfold kV yS; rw [if_neg hc3, if_neg hc5, if_neg hc7, if_neg hc9]; exact qX _)
  rintro ⟨⟨X, v1⟩, hcut⟩
  replace hcut : X = yS W k ∧ v1 = kV X ba bl (.slice pg W.gone.length cg) := hcut
  obtain ⟨hX, hv1⟩ := hcut
  show Tr _ _ _ ([(2, .pointer (some ⟨b2, 0, none⟩)), (4, .pointer (some ⟨b4, 0, none⟩))]) ([(b2, .cells v1.toArray 41 (0, 0))] :: [(b4, .cells node0V.toArray 41 (0, 0))] :: [(ba, .cells ((z7 X.all).flatMap wz ++ []).toArray 125 (0, 0))] :: [(bl, .cells ((wN X.leaves).flatMap wy ++ []).toArray 38 (0, 0))] :: Cg :: F) _ _
  refine qN ?_
  have hg : X.gone = W.gone := by rw [hX]; unfold yS; split <;> first | rfl | (split <;> first | rfl | (split <;> first | rfl | (split <;> rfl)))
  refine qK <| q9 (wQ rfl (by rw [hv1]; rfl)) ?_
  refine qR (qo rfl rfl rfl (by rw [hv1]; rfl) (by rw [hv1]; rfl)) ?_
  refine qT <| zN (L' := [(b4, .cells v1.toArray 41 (0, 0))] :: ((ba, .cells ((z7 X.all).flatMap wz ++ []).toArray 125 (0, 0)) :: (bl, .cells ((wN X.leaves).flatMap wy ++ []).toArray 38 (0, 0)) :: Cg) :: F) (fun w hw => wZ (by simp) w hw.tail) ?_
  refine qJ <| qy <| wC (((ba, .cells ((z7 X.all).flatMap wz ++ []).toArray 125 (0, 0)) :: (bl, .cells ((wN X.leaves).flatMap wy ++ []).toArray 38 (0, 0)) :: Cg) :: F) (.inl rfl) rfl (zR rfl (by rw [hv1]; rfl)) ?_
  exact ⟨_, _, rfl, ⟨_, Cg, by rw [← hX]; exact hv1, by rw [← hX, hg]; exact hs, by rw [← hX]⟩, rfl⟩
theorem flat_sub {α : Type} {enc : α → List Value} {sz : Nat} (he : ∀ x, (enc x).length = sz) (xs : List α) (r : List Value) {j : Nat} {p : α} (hj : xs[j]? = some p) {k n : Nat} (hkn : k + n ≤ sz) :
    ((xs.flatMap enc ++ r).drop (j * sz + k)).take n = ((enc p).drop k).take n := by
  have h := Qj he xs r hj
  rw [← List.drop_drop, ← h, List.drop_take, List.take_take, Nat.min_eq_left (by omega)]
theorem QH {P : Program} {N : Nat} {E : Env} {α : Type} {enc : α → List Value} {x : Operand} {t ty sz n : TypeId} {b off j k : Nat} {xs : List α} {r q : List Value} {e : TypeId} {fr : Nat × Nat} {p : α} [ht : TyAgg P t n]
    (he : ∀ x, (enc x).length = sz) (hx : opv E x = some (.pointer (some ⟨b, off, none⟩))) (hm : (b, .cells (xs.flatMap enc ++ r).toArray e fr) ∈ L.flatten) (hj : xs[j]? = some p) (ho : off = j * sz + k) (hkn : k + n ≤ sz) (hq : ((enc p).drop k).take n = q) :
    Op1 P N w0 E L (.load t x) ty (.agg q.toArray) L :=
  k0 hx hm (by subst ho; rw [← hq]; exact flat_sub he xs r hj hkn) (by
    have hlt := (List.getElem?_eq_some_iff.1 hj).1
    have h1 := kR he xs
    have h2 : (j + 1) * sz ≤ xs.length * sz := Nat.mul_le_mul_right _ hlt
    rw [Nat.add_mul] at h2
    simp [ho]; rw [← List.length_flatMap, h1]; omega)
open Classical in
noncomputable def Z9 (l : List Int) : Sec := if h : jY l then jy l h else Sec.zero
open Classical in
noncomputable def VS (x : Ino) : Sec := if h : x.Ok then Zd x h else Sec.zero
theorem WX {l : List Int} (h : jY l) : Z9 l = jy l h := by unfold Z9; rw [dif_pos h]
theorem KU {x : Ino} (h : x.Ok) : VS x = Zd x h := by unfold VS; rw [dif_pos h]
def y5 (W : RS) (h : Int → Int × Int) : List Int := (List.range 32).map fun j : Nat => qn W (h j)
def jR (W : RS) : Ino := ⟨W.num, W.ver, W.kind, W.size, W.time, (List.range 8).map (fun j : Nat => qn W (1, j)), W.sg.at_, W.db.at_⟩
noncomputable def wx (W : RS) (k : Int × Int) : Sec :=
  if k.1 = 1 then (W.all k.2).s
  else if k.1 = 5 then Z9 (y5 W (zP 2 k.2))
  else if k.1 = 3 then Z9 (y5 W (zP 1 0))
  else if k.1 = 4 then Z9 (y5 W (fun j => (5, j)))
  else VS (jR W)
structure ROk (W : RS) : Prop where
  num : 0 ≤ W.num ∧ W.num < 65536
  ver : 0 ≤ W.ver ∧ W.ver < 4294967296
  kind : 1 ≤ W.kind ∧ W.kind ≤ 2
  size : 0 ≤ W.size ∧ W.size ≤ 136192
  time : 0 ≤ W.time ∧ W.time < 4294967296
  at_ : ∀ k, qw k → 0 ≤ qn W k ∧ qn W k ≤ 65535
theorem Wy {W : RS} (h : ROk W) {f : Int → Int × Int} (hf : ∀ j : Nat, j < 32 → qw (f j)) : jY (y5 W f) := ⟨by simp [y5], fun a ha => by
  obtain ⟨j, hj, rfl⟩ := List.mem_map.1 ha
  exact h.at_ _ (hf j (by simpa using hj))⟩
theorem Ys {W : RS} (h : ROk W) : (jR W).Ok := by
  have hs := h.size
  refine ⟨h.num, h.ver, h.kind, ?_, h.time, by simp [jR], fun a ha => ?_, ?_, ?_⟩
  · show 0 ≤ W.size ∧ W.size < _; omega
  · obtain ⟨j, hj, rfl⟩ := List.mem_map.1 ha
    have hj : j < 8 := by simpa using hj
    have := h.at_ (1, j) (.inl ⟨rfl, by dsimp only; omega, by dsimp only; omega⟩); omega
  · have : _ ∧ _ := h.at_ (3, 0) (.inr (.inr (.inl rfl))); show 0 ≤ W.sg.at_ ∧ W.sg.at_ < 4294967296
    rw [show qn W (3, 0) = W.sg.at_ from rfl] at this; omega
  · have : _ ∧ _ := h.at_ (4, 0) (.inr (.inr (.inr (.inl rfl)))); show 0 ≤ W.db.at_ ∧ W.db.at_ < 4294967296
    rw [show qn W (4, 0) = W.db.at_ from rfl] at this; omega
theorem QM {l f : Int} (h : l = 1 ∧ f = 0 ∨ l = 2 ∧ 0 ≤ f ∧ f < 32) (j : Nat) (hj : j < 32) : qw (zP l f j) := by
  refine .inl ⟨rfl, ?_, ?_⟩ <;> unfold zP <;> dsimp only <;> rcases h with ⟨rfl, rfl⟩ | ⟨rfl, h⟩ <;> simp <;> omega
theorem YR (W : RS) (l f : Int) (j : Int) : qn W (zP l f j) = (W.all ((if l = 0 then 0 else if l = 1 then 8 else 40) + f * 32 + j)).at_ := rfl
theorem kf (W : RS) (j : Int) : qn W (5, j) = (W.leaves j).at_ := rfl
theorem yJ (W : RS) (j : Int) : qn W (1, j) = (W.all j).at_ := rfl
theorem Qp (W : RS) (h : Int → Int × Int) {j : Nat} (hj : j < 32) : (y5 W h)[j]? = some (qn W (h j)) := by simp [y5, hj]
instance (priority := high) : TyZero Tryz.prog 183 (.agg (yL Vq).toArray) := .of (by kernel_rfl)
theorem KA (W : RS) (v : List Value) (C : qV) (hw : RefC0 ba bl W v C) (hr : ROk W) (k : Int × Int) (hk : qw k) :
    FnT Tryz.prog w0 77 #[.agg v.toArray, .agg (zK k).toArray] (C :: F) (fun v L' => v = .agg (wt (wx W k)).toArray ∧ L' = C :: F) := by
  obtain ⟨pg, gn, cg, hv, hC⟩ := hw
  obtain ⟨l8, hl8⟩ : ∃ l, (List.range 8).map (fun j : Nat => qn W (1, j)) = l := ⟨_, rfl⟩
  have hlen8 : l8.length = 8 := by rw [← hl8]; simp
  have hget8 : ∀ j : Nat, j < 8 → l8[j]? = some ((W.all j).at_) := fun j hj => by rw [← hl8]; simp [hj]; rfl
  rw [show zK k = [.int .i64 k.1, .int .i64 k.2] from rfl]
  refine qi (E0 := [(0, _), (1, _)]) (N := 116) Tryz.func77 rfl rfl rfl rfl ?_
  refine qO <| qG (wq rfl) ?_
  rintro t2 _ ⟨b2, rfl, rfl⟩
  refine qG (wq rfl) ?_
  rintro t3 _ ⟨b3, rfl, rfl⟩
  refine qG (qj) ?_
  rintro t4 _ ⟨b4, rfl, rfl⟩
  refine qm <| qG (qj) ?_
  rintro t5 _ ⟨b5, rfl, rfl⟩
  refine qF <| zY (Γ := {pΓ : (List Int) // (fun (l : List Int) => Z9 l = wx W k ∧ jY l) pΓ}) (fun g => (fun (l : List Int) => [(4, .pointer (some ⟨b4, 0, none⟩)), (5, .pointer (some ⟨b5, 0, none⟩))]) g.1) (fun g => (fun (l : List Int) => [(b4, .cells (wt Sec.zero).toArray 54 (0, 0))] :: [(b5, .cells (iV l).toArray 175 (0, 0))] :: C :: F) g.1) ?_ ?_
  ·
   refine qO <| q9 (qB rfl) <| q9 (qI rfl rfl) <| qF <| qg <| qO <| q9 (wn rfl rfl) <| qE rfl <| qF <| qM rfl (fun hc10 => ?_) (fun hc10 => ?_)
   ·
    refine qN ?_
    obtain ⟨i, hi, hlt⟩ := VL hk hc10
    refine qK <| q9 (qB rfl) <| q9 (qI rfl (show wY v 5 = some (.slice (some ⟨ba, 0, none⟩) 1064 1064) by rw [hv]; rfl)) <| q9 (qB rfl) <| q9 (qI rfl rfl) <| q9 (qx (j := i) (off := i * 131) rfl rfl hi (by omega) (by simp)) ?_
    refine q9 (wA rfl) <| q9 (QH (j := i) (k := 3) (q := wt (W.all i).s) zh rfl (show (ba, Obj.cells ((z7 W.all).flatMap wz ++ []).toArray 125 (0, 0)) ∈ List.flatten _ by rw [hC]; simp) (yI (by omega)) rfl (by decide) (by rw [show (wz (W.all i)).drop 3 = wt (W.all i).s from rfl, List.take_of_length_le (by simp)])) ?_
    refine qR (qo rfl rfl (by simp) (by simp) (wl _)) ?_
    refine qF <| qy <| wH <| k3 <| wC (C :: F) (.inl rfl) rfl (zR rfl (by simp)) ?_
    exact ⟨by unfold wx; rw [if_pos hc10, hi], rfl⟩
   ·
    refine qO <| q9 (wn rfl rfl) <| qE rfl <| qF <| qM rfl (fun hc12 => ?_) (fun hc12 => ?_)
    ·
     refine qN ?_
     obtain ⟨q, hq, hlt⟩ := VK hk hc12
     refine qK <| qE rfl <| qF <| qg <| wS (Γ := {pΓ : (Nat) // (fun (i : Nat) => i ≤ 32) pΓ}) (fun g => (fun (i : Nat) => [(2, .pointer (some ⟨b2, 0, none⟩)), (3, .pointer (some ⟨b3, 0, none⟩)), (4, .pointer (some ⟨b4, 0, none⟩)), (5, .pointer (some ⟨b5, 0, none⟩)), (6, .int .i64 i)]) g.1) (fun g => (fun (i : Nat) => [(b5, .cells (iV ((y5 W (zP 2 k.2)).take i) ++ List.replicate (32 - i) (Value.int .i64 0)).toArray 175 (0, 0))] :: [(b4, .cells (wt Sec.zero).toArray 54 (0, 0))] :: [(b3, .cells [.int .i64 k.1, .int .i64 k.2].toArray 65 (0, 0))] :: [(b2, .cells v.toArray 41 (0, 0))] :: C :: F) g.1) (fun g => (fun (i : Nat) => 32 - i) g.1) ⟨0, by dsimp only; exact (by omega)⟩ (yW rfl) ?_
     rintro ⟨i, hloop⟩
     replace hloop : i ≤ 32 := hloop
     obtain hi := hloop
     show Tr _ _ _ ([(2, .pointer (some ⟨b2, 0, none⟩)), (3, .pointer (some ⟨b3, 0, none⟩)), (4, .pointer (some ⟨b4, 0, none⟩)), (5, .pointer (some ⟨b5, 0, none⟩)), (6, .int .i64 i)]) ([(b5, .cells (iV ((y5 W (zP 2 k.2)).take i) ++ List.replicate (32 - i) (Value.int .i64 0)).toArray 175 (0, 0))] :: [(b4, .cells (wt Sec.zero).toArray 54 (0, 0))] :: [(b3, .cells [.int .i64 k.1, .int .i64 k.2].toArray 65 (0, 0))] :: [(b2, .cells v.toArray 41 (0, 0))] :: C :: F) _ _
     refine qN <| qO <| qA rfl <| q9 (wJ rfl rfl) <| qF <| qM rfl (fun hc14 => ?_) (fun hc14 => ?_)
     ·
      refine qZ <| qJ <| qN <| qg ?_
      have ha : (y5 W (zP 2 k.2))[i]? = some ((W.all ((40 + 32 * q + i : Nat) : Int)).at_) := by rw [Qp _ _ (by omega), YR]; congr 3; rw [hq]; simp; omega
      refine qK <| qA rfl <| q9 (qB rfl) <| q9 (qI rfl (show wY v 5 = some (.slice (some ⟨ba, 0, none⟩) 1064 1064) by rw [hv]; rfl)) <| q9 (qB rfl) <| q9 (qI rfl rfl) <| q9 (x3 rfl rfl (by omega)) <| q9 (w9 rfl rfl (by omega)) <| qA rfl <| q9 (w9 rfl rfl (by omega)) <| q9 (qx (j := 40 + 32 * q + i) (off := (40 + 32 * q + i) * 131) rfl rfl (by omega) (by omega) (by simp)) ?_
      refine q9 (wA rfl) <| q9 (y0 (j := 40 + 32 * q + i) (k := 1) (v := .int .i64 (W.all ((40 + 32 * q + i : Nat) : Int)).at_) zh rfl (show (ba, Obj.cells ((z7 W.all).flatMap wz ++ []).toArray 125 (0, 0)) ∈ List.flatten _ by rw [hC]; simp) (yI (by omega)) rfl rfl) <| q9 (wj (j := i) (off := i * 1) rfl rfl rfl (by omega) (by simp)) ?_
      refine qR (yM rfl rfl (by simp [y5]; omega) rfl) ?_
      refine qT <| qe <| qJ <| qK <| qA rfl <| q9 (w9 rfl rfl (by omega)) <| qE rfl <| qT <| w6 ⟨i + 1, ?_⟩ ?_ ?_
      · (try dsimp only); omega
      · (try dsimp only); omega
      · (try dsimp only); exact yW (by rw [Zg ha (by omega)])
     ·
      refine wa <| qr <| qt <| qh <| qe <| qW ⟨y5 W (zP 2 k.2), ?_⟩ ?_
      · (try dsimp only); exact ⟨by unfold wx; rw [if_neg (by omega), if_pos hc12], Wy hr (fun j hj => QM (.inr ⟨rfl, by omega, by omega⟩) j hj)⟩
      · (try dsimp only); exact (by obtain rfl : i = 32 := (by omega); rw [List.take_of_length_le (by simp [y5]), Nat.sub_self, List.replicate_zero, List.append_nil]; exact qX _)
    ·
     refine qO <| q9 (wn rfl rfl) <| qE rfl <| qF <| qM rfl (fun hc17 => ?_) (fun hc17 => ?_)
     ·
      refine qO <| qE rfl <| qF <| qg <| wS (Γ := {pΓ : (Nat) // (fun (i : Nat) => i ≤ 32) pΓ}) (fun g => (fun (i : Nat) => [(2, .pointer (some ⟨b2, 0, none⟩)), (3, .pointer (some ⟨b3, 0, none⟩)), (4, .pointer (some ⟨b4, 0, none⟩)), (5, .pointer (some ⟨b5, 0, none⟩)), (7, .int .i64 i)]) g.1) (fun g => (fun (i : Nat) => [(b5, .cells (iV ((y5 W (zP 1 0)).take i) ++ List.replicate (32 - i) (Value.int .i64 0)).toArray 175 (0, 0))] :: [(b4, .cells (wt Sec.zero).toArray 54 (0, 0))] :: [(b3, .cells [.int .i64 k.1, .int .i64 k.2].toArray 65 (0, 0))] :: [(b2, .cells v.toArray 41 (0, 0))] :: C :: F) g.1) (fun g => (fun (i : Nat) => 32 - i) g.1) ⟨0, by dsimp only; exact (by omega)⟩ (yW rfl) ?_
      rintro ⟨i, hloop⟩
      replace hloop : i ≤ 32 := hloop
      obtain hi := hloop
      show Tr _ _ _ ([(2, .pointer (some ⟨b2, 0, none⟩)), (3, .pointer (some ⟨b3, 0, none⟩)), (4, .pointer (some ⟨b4, 0, none⟩)), (5, .pointer (some ⟨b5, 0, none⟩)), (7, .int .i64 i)]) ([(b5, .cells (iV ((y5 W (zP 1 0)).take i) ++ List.replicate (32 - i) (Value.int .i64 0)).toArray 175 (0, 0))] :: [(b4, .cells (wt Sec.zero).toArray 54 (0, 0))] :: [(b3, .cells [.int .i64 k.1, .int .i64 k.2].toArray 65 (0, 0))] :: [(b2, .cells v.toArray 41 (0, 0))] :: C :: F) _ _
      refine qN <| qO <| qA rfl <| q9 (wJ rfl rfl) <| qF <| qM rfl (fun hc19 => ?_) (fun hc19 => ?_)
      ·
       refine qZ <| qJ <| qN <| qg ?_
       have ha : (y5 W (zP 1 0))[i]? = some ((W.all ((8 + i : Nat) : Int)).at_) := by rw [Qp _ _ (by omega), YR]; congr 3
       refine qK <| qA rfl <| q9 (qB rfl) <| q9 (qI rfl (show wY v 5 = some (.slice (some ⟨ba, 0, none⟩) 1064 1064) by rw [hv]; rfl)) <| qA rfl <| q9 (w9 rfl rfl (by omega)) <| q9 (qx (j := 8 + i) (off := (8 + i) * 131) rfl rfl (by omega) (by omega) (by simp)) ?_
       refine q9 (wA rfl) <| q9 (y0 (j := 8 + i) (k := 1) (v := .int .i64 (W.all ((8 + i : Nat) : Int)).at_) zh rfl (show (ba, Obj.cells ((z7 W.all).flatMap wz ++ []).toArray 125 (0, 0)) ∈ List.flatten _ by rw [hC]; simp) (yI (by omega)) rfl rfl) <| q9 (wj (j := i) (off := i * 1) rfl rfl rfl (by omega) (by simp)) ?_
       refine qR (yM rfl rfl (by simp [y5]; omega) rfl) ?_
       refine qT <| qe <| qJ <| qK <| qA rfl <| q9 (w9 rfl rfl (by omega)) <| qE rfl <| qT <| w6 ⟨i + 1, ?_⟩ ?_ ?_
       · (try dsimp only); omega
       · (try dsimp only); omega
       · (try dsimp only); exact yW (by rw [Zg ha (by omega)])
      ·
       refine wa <| qr <| qt <| qh <| qe <| qW ⟨y5 W (zP 1 0), ?_⟩ ?_
       · (try dsimp only); exact ⟨by unfold wx; rw [if_neg (by omega), if_neg (by omega), if_pos hc17], Wy hr (fun j hj => QM (.inl ⟨rfl, rfl⟩) j hj)⟩
       · (try dsimp only); exact (by obtain rfl : i = 32 := (by omega); rw [List.take_of_length_le (by simp [y5]), Nat.sub_self, List.replicate_zero, List.append_nil]; exact qX _)
     ·
      refine qO <| q9 (wn rfl rfl) <| qE rfl <| qF <| qM rfl (fun hc22 => ?_) (fun hc22 => ?_)
      ·
       refine qO <| qE rfl <| qF <| qg <| wS (Γ := {pΓ : (Nat) // (fun (i : Nat) => i ≤ 32) pΓ}) (fun g => (fun (i : Nat) => [(2, .pointer (some ⟨b2, 0, none⟩)), (3, .pointer (some ⟨b3, 0, none⟩)), (4, .pointer (some ⟨b4, 0, none⟩)), (5, .pointer (some ⟨b5, 0, none⟩)), (8, .int .i64 i)]) g.1) (fun g => (fun (i : Nat) => [(b5, .cells (iV ((y5 W (fun j => (5, j))).take i) ++ List.replicate (32 - i) (Value.int .i64 0)).toArray 175 (0, 0))] :: [(b4, .cells (wt Sec.zero).toArray 54 (0, 0))] :: [(b3, .cells [.int .i64 k.1, .int .i64 k.2].toArray 65 (0, 0))] :: [(b2, .cells v.toArray 41 (0, 0))] :: C :: F) g.1) (fun g => (fun (i : Nat) => 32 - i) g.1) ⟨0, by dsimp only; exact (by omega)⟩ (yW rfl) ?_
       rintro ⟨i, hloop⟩
       replace hloop : i ≤ 32 := hloop
       obtain hi := hloop
       show Tr _ _ _ ([(2, .pointer (some ⟨b2, 0, none⟩)), (3, .pointer (some ⟨b3, 0, none⟩)), (4, .pointer (some ⟨b4, 0, none⟩)), (5, .pointer (some ⟨b5, 0, none⟩)), (8, .int .i64 i)]) ([(b5, .cells (iV ((y5 W (fun j => (5, j))).take i) ++ List.replicate (32 - i) (Value.int .i64 0)).toArray 175 (0, 0))] :: [(b4, .cells (wt Sec.zero).toArray 54 (0, 0))] :: [(b3, .cells [.int .i64 k.1, .int .i64 k.2].toArray 65 (0, 0))] :: [(b2, .cells v.toArray 41 (0, 0))] :: C :: F) _ _
       refine qN <| qO <| qA rfl <| q9 (wJ rfl rfl) <| qF <| qM rfl (fun hc24 => ?_) (fun hc24 => ?_)
       ·
        refine qZ <| qJ <| qN <| qg ?_
        have ha : (y5 W (fun j => (5, j)))[i]? = some ((W.leaves i).at_) := by rw [Qp _ _ (by omega), kf]
        refine qK <| qA rfl <| q9 (qB rfl) <| q9 (qI rfl (show wY v 6 = some (.slice (some ⟨bl, 0, none⟩) 32 32) by rw [hv]; rfl)) <| qA rfl <| q9 (qx (j := i) (off := i * 2) rfl rfl rfl (by omega) (by simp)) ?_
        refine q9 (wA rfl) <| q9 (y0 (j := i) (k := 0) (v := .int .i64 (W.leaves i).at_) zV rfl (show (bl, Obj.cells ((wN W.leaves).flatMap wy ++ []).toArray 38 (0, 0)) ∈ List.flatten _ by rw [hC]; simp) (zF (by omega)) rfl rfl) <| q9 (wj (j := i) (off := i * 1) rfl rfl rfl (by omega) (by simp)) ?_
        refine qR (yM rfl rfl (by simp [y5]; omega) rfl) ?_
        refine qT <| qe <| qJ <| qK <| qA rfl <| q9 (w9 rfl rfl (by omega)) <| qE rfl <| qT <| w6 ⟨i + 1, ?_⟩ ?_ ?_
        · (try dsimp only); omega
        · (try dsimp only); omega
        · (try dsimp only); exact yW (by rw [Zg ha (by omega)])
       ·
        refine wa <| qr <| qt <| qh <| qe <| qW ⟨y5 W (fun j => (5, j)), ?_⟩ ?_
        · (try dsimp only); exact ⟨by unfold wx; rw [if_neg (by omega), if_neg (by omega), if_neg (by omega), if_pos hc22], Wy hr (fun j hj => .inr (.inr (.inr (.inr ⟨rfl, by dsimp only; omega, by dsimp only; omega⟩))))⟩
        · (try dsimp only); exact (by obtain rfl : i = 32 := (by omega); rw [List.take_of_length_le (by simp [y5]), Nat.sub_self, List.replicate_zero, List.append_nil]; exact qX _)
      ·
       refine qO <| q9 (qB rfl) <| q9 (qI rfl (show wY v 0 = some (.int .u32 W.num) by rw [hv]; rfl)) <| q9 (qB rfl) <| q9 (qI rfl (show wY v 1 = some (.int .u32 W.ver) by rw [hv]; rfl)) <| q9 (qB rfl) <| q9 (qI rfl (show wY v 2 = some (.int .i64 W.kind) by rw [hv]; rfl)) <| q9 (qB rfl) <| q9 (qI rfl (show wY v 3 = some (.int .i64 W.size) by rw [hv]; rfl)) <| q9 (qB rfl) <| q9 (qI rfl (show wY v 4 = some (.int .u32 W.time) by rw [hv]; rfl)) <| q9 (qB rfl) <| q9 (wA rfl) <| q9 (qI rfl (show wY v 7 = some (.int .i64 W.sg.at_) by rw [hv]; rfl)) <| q9 (qB rfl) <| q9 (wA rfl) <| q9 (qI rfl (show wY v 9 = some (.int .i64 W.db.at_) by rw [hv]; rfl)) <| q9 (wX (z := [Value.int .u32 0, Value.int .u32 0, Value.int .i64 0, Value.int .i64 0, Value.int .u32 0, Value.int .i64 0, Value.int .i64 0, Value.int .i64 0, Value.int .i64 0, Value.int .i64 0, Value.int .i64 0, Value.int .i64 0, Value.int .i64 0, Value.int .i64 0, Value.int .i64 0]) (hz := .of (by kernel_rfl)) rfl) ?_
       refine qG (qj) ?_
       rintro t9 _ ⟨b9, rfl, rfl⟩
       refine qR (qo rfl rfl Wf rfl (by simp [Value.oneCell'])) ?_
       refine qF <| qN <| qO <| qE rfl <| qF <| qg <| wS (Γ := {pΓ : (Nat) // (fun (i : Nat) => i ≤ 8) pΓ}) (fun g => (fun (i : Nat) => [(2, .pointer (some ⟨b2, 0, none⟩)), (4, .pointer (some ⟨b4, 0, none⟩)), (9, .pointer (some ⟨b9, 0, none⟩)), (10, .int .i64 i)]) g.1) (fun g => (fun (i : Nat) => [(b9, .cells (yL { jR W with d := l8.take i ++ List.replicate (8 - i) 0 }).toArray 183 (0, 0))] :: [(b5, .cells (List.replicate 32 (Value.int .i64 0)).toArray 175 (0, 0))] :: [(b4, .cells (wt Sec.zero).toArray 54 (0, 0))] :: [(b3, .cells [.int .i64 k.1, .int .i64 k.2].toArray 65 (0, 0))] :: [(b2, .cells v.toArray 41 (0, 0))] :: C :: F) g.1) (fun g => (fun (i : Nat) => 8 - i) g.1) ⟨0, by dsimp only; exact (by omega)⟩ (yW rfl) ?_
       rintro ⟨i, hloop⟩
       replace hloop : i ≤ 8 := hloop
       obtain hi := hloop
       show Tr _ _ _ ([(2, .pointer (some ⟨b2, 0, none⟩)), (4, .pointer (some ⟨b4, 0, none⟩)), (9, .pointer (some ⟨b9, 0, none⟩)), (10, .int .i64 i)]) ([(b9, .cells (yL { jR W with d := l8.take i ++ List.replicate (8 - i) 0 }).toArray 183 (0, 0))] :: [(b5, .cells (List.replicate 32 (Value.int .i64 0)).toArray 175 (0, 0))] :: [(b4, .cells (wt Sec.zero).toArray 54 (0, 0))] :: [(b3, .cells [.int .i64 k.1, .int .i64 k.2].toArray 65 (0, 0))] :: [(b2, .cells v.toArray 41 (0, 0))] :: C :: F) _ _
       refine qN <| qO <| qA rfl <| q9 (wJ rfl rfl) <| qF <| qM rfl (fun hc5 => ?_) (fun hc5 => ?_)
       ·
        refine qZ <| qJ <| qN <| qg <| qK <| qA rfl <| q9 (qB rfl) <| q9 (qI rfl (show wY v 5 = some (.slice (some ⟨ba, 0, none⟩) 1064 1064) by rw [hv]; rfl)) <| qA rfl <| q9 (qx (j := i) (off := i * 131) rfl rfl rfl (by omega) (by simp)) ?_
        refine q9 (wA rfl) <| q9 (y0 (j := i) (k := 1) (v := .int .i64 (W.all i).at_) zh rfl (show (ba, Obj.cells ((z7 W.all).flatMap wz ++ []).toArray 125 (0, 0)) ∈ List.flatten _ by rw [hC]; simp) (yI (by omega)) rfl rfl) <| q9 (qB rfl) <| q9 (wj (j := i) (off := 5 + i * 1) rfl rfl rfl (by omega) (by simp)) ?_
        refine qR (yM rfl rfl (by simp [yL]; omega) rfl) ?_
        refine qT <| qe <| qJ <| qK <| qA rfl <| q9 (w9 rfl rfl (by omega)) <| qE rfl <| qT <| w6 ⟨i + 1, ?_⟩ ?_ ?_
        · (try dsimp only); omega
        · (try dsimp only); omega
        · (try dsimp only); exact yW (by have e := Vj (y := { jR W with d := l8.take i ++ List.replicate (8 - i) 0 }) (i := i) (a := (W.all i).at_) (by simp; omega); have e2 := V8 (hget8 i (by omega)) (by omega) (by omega); dsimp only at e e2; rw [e2] at e; rw [show i * 1 = i from by omega]; rw [e])
       ·
        refine wa <| qr <| qt <| qh <| qJ <| qN ?_
        obtain rfl : i = 8 := by omega
        have he : { jR W with d := l8.take 8 ++ List.replicate (8 - 8) 0 } = jR W := by rw [List.take_of_length_le (by omega), Nat.sub_self, List.replicate_zero, List.append_nil, ← hl8]; rfl
        rw [he]
        refine qK <| q9 (wQ rfl (j3 (Ys hr))) <| q9 (wM rfl (rwriteInode_ok (jR W) (Ys hr))) <| qA rfl <| q9 (qf rfl rfl) <| q9 (qf rfl rfl) <| qG (qj) ?_
        rintro t11 _ ⟨b11, rfl, rfl⟩
        refine qR (qo rfl rfl (by simp) (by simp) (by exact wl _)) ?_
        refine qE rfl <| qm <| q9 (wQ rfl (by simp)) ?_
        refine qR (qo rfl rfl (by simp) (by simp) (by exact wl _)) ?_
        refine qF <| qy <| wH <| k3 <| wC (C :: F) (.inl rfl) rfl (zR rfl (by simp)) ?_
        exact ⟨by unfold wx; rw [if_neg (by omega), if_neg (by omega), if_neg (by omega), if_neg (by omega), KU (Ys hr)], rfl⟩
  rintro ⟨l, hcut⟩
  replace hcut : Z9 l = wx W k ∧ jY l := hcut
  obtain ⟨hl, hpl⟩ := hcut
  show Tr _ _ _ ([(4, .pointer (some ⟨b4, 0, none⟩)), (5, .pointer (some ⟨b5, 0, none⟩))]) ([(b4, .cells (wt Sec.zero).toArray 54 (0, 0))] :: [(b5, .cells (iV l).toArray 175 (0, 0))] :: C :: F) _ _
  refine qO <| q9 (wQ rfl (by simp [hpl.len])) ?_
  refine q9 (wM rfl (rwritePointers_ok l hpl)) <| qA rfl <| q9 (qf rfl rfl) <| q9 (qf rfl rfl) <| qG (qj) ?_
  rintro t13 _ ⟨b13, rfl, rfl⟩
  refine qR (qo rfl rfl (by simp) (by simp) (by exact wl _)) ?_
  refine qE rfl <| qm <| q9 (wQ rfl (by simp)) ?_
  refine qR (qo rfl rfl (by simp) (by simp) (by exact wl _)) ?_
  refine qF <| qy <| wC (C :: F) (.inl rfl) rfl (zR rfl (by simp)) ?_
  exact ⟨by rw [← hl, WX hpl], rfl⟩
end
end Go.Proofs.YtjikpomndbkfgaaGreatDoor
namespace Go.Sx
open Go
theorem SlC.slice2 {e sz : Nat} {v : Value} {n : Nat} {cs : List Value} {C : qV} (h : SlC e sz v n cs C) : ∃ p c, v = .slice p n c ∧ n ≤ c := by
  rcases h with ⟨rfl, rfl, _, _⟩ | ⟨_, _, _, rfl, _, _, _, h⟩
  · exact ⟨_, _, rfl, Nat.le_refl _⟩
  · exact ⟨_, _, rfl, h⟩
theorem Qr {w0 : World} {L F : Res} {e sz : Nat} {p : Option Addr} {n c l h : Nat} {cs : List Value} {C : qV} (hs : SlC e sz (.slice p n c) n cs C) [ht : Take1 L C F] (h1 : l ≤ h) (h2 : h ≤ n) :
    Reads w0 L (.slice (if c = l then p else p.map (·.add (l * sz))) (h - l) (c - l)) (h - l) sz ((cs.drop (l * sz)).take ((h - l) * sz)) := by
  rcases hs with ⟨he, rfl, rfl, rfl⟩ | ⟨b, cap, spare, he, hcs, rfl, hsp, hc⟩
  · cases he
    have e0 : h - l = 0 := by omega
    exact ⟨_, _, rfl, by simp [e0], .inl (by simp [e0])⟩
  · cases he
    have hle : l * sz + (h - l) * sz ≤ n * sz := by rw [← Nat.add_mul]; exact Nat.mul_le_mul_right _ (by omega)
    refine ⟨_, _, rfl, by rw [List.length_take, List.length_drop, hcs]; omega, ?_⟩
    by_cases e0 : h - l = 0
    · exact .inl (by simp [e0])
    · right
      rw [if_neg (show ¬ c = l by omega)]
      refine ⟨b, l * sz, (cs ++ spare).toArray, e, (0, 0), by simp [yh], (ht.perm.mem_iff).2 (by simp), ?_⟩
      rw [List.toList_toArray, List.drop_append_of_le_length (by omega), List.take_append_of_le_length (by rw [List.length_drop]; omega)]
end Go.Sx
namespace Go.Proofs.YtjikpomndbkfgaaGreatDoor
open Go Go.Sx Go.Nd
set_option maxRecDepth 10000
section
variable {w0 : World} {L F : Res} {ba bl : Nat}
def QU (x : Int) : List Int → List Int
  | [] => [x]
  | y :: ys => if y ≤ x then y :: QU x ys else x :: y :: ys
def We (xs : List Int) : List Int := xs.foldl (fun o x => QU x o) []
theorem JN (x : Int) (l : List Int) : (QU x l).Perm (x :: l) := by
  induction l with
  | nil => exact List.Perm.refl _
  | cons y ys ih =>
    unfold QU; split
    · exact (ih.cons y).trans (List.Perm.swap x y ys)
    · exact List.Perm.refl _
theorem insR_sorted (x : Int) (l : List Int) (h : l.Pairwise (· ≤ ·)) : (QU x l).Pairwise (· ≤ ·) := by
  induction l with
  | nil => simp [QU]
  | cons y ys ih =>
    have h' := List.pairwise_cons.1 h
    unfold QU; split
    · rename_i hyx
      refine List.pairwise_cons.2 ⟨fun z hz => ?_, ih h'.2⟩
      rcases List.mem_cons.1 ((JN x ys).mem_iff.1 hz) with rfl | hz
      · exact hyx
      · exact h'.1 z hz
    · refine List.pairwise_cons.2 ⟨fun z hz => ?_, h⟩
      rcases List.mem_cons.1 hz with rfl | hz
      · omega
      · have := h'.1 z hz; omega
theorem Ya (xs o : List Int) (ho : o.Pairwise (· ≤ ·)) : (xs.foldl (fun o x => QU x o) o).Pairwise (· ≤ ·) ∧ (xs.foldl (fun o x => QU x o) o).Perm (o ++ xs) := by
  induction xs generalizing o with
  | nil => exact ⟨ho, by simp⟩
  | cons x xs ih =>
    have h := ih (QU x o) (insR_sorted x o ho)
    refine ⟨h.1, h.2.trans ?_⟩
    exact ((JN x o).append_right xs).trans (by simpa using (List.perm_middle (l₁ := o) (l₂ := xs) (a := x)).symm)
theorem insAll_srt (xs : List Int) : We xs = srt xs := by
  have h := Ya xs [] (by simp)
  refine List.Perm.eq_of_pairwise (le := fun a b => a ≤ b) (fun a b _ _ h1 h2 => by omega) h.1 ?_ (h.2.trans (by rw [List.nil_append]; exact (List.mergeSort_perm xs _).symm))
  have := List.pairwise_mergeSort (le := fun a b : Int => decide (a ≤ b)) (fun a b c h1 h2 => by simp at *; omega) (fun a b => by simp; omega) xs
  exact this.imp (fun h => by simpa using h)
theorem Yq (x : Int) : ∀ (l : List Int) (k : Nat), k ≤ l.length → (∀ y ∈ l.take k, y ≤ x) → (∀ y, l[k]? = some y → x < y) → l.take k ++ [x] ++ l.drop k = QU x l := by
  intro l
  induction l with
  | nil => intro k hk _ _; simp at hk; subst hk; rfl
  | cons y ys ih =>
    intro k hk h1 h2
    cases k with
    | zero =>
      have := h2 y rfl
      unfold QU; rw [if_neg (by omega)]; rfl
    | succ k =>
      have := h1 y (by simp)
      unfold QU; rw [if_pos this]
      have := ih k (by simpa using hk) (fun z hz => h1 z (by simp [hz])) (fun z hz => h2 z (by simpa using hz))
      rw [← this]; rfl
theorem insAll_len (xs : List Int) : (We xs).length = xs.length := by
  have := (Ya xs [] (by simp)).2.length_eq
  rwa [List.nil_append] at this
theorem QV (l : List Int) (i n : Nat) : ((iV l).drop i).take n = iV ((l.drop i).take n) := by simp [iV, List.map_take, List.map_drop]
theorem jl {l : List Int} {r : List Value} {i : Nat} {a : Int} (h : l[i]? = some a) : wY (iV l ++ r) (i * 1) = some (.int .i64 a) := by
  rw [zB, Nat.mul_one, List.getElem?_append_left (by simp [iV]; exact (List.getElem?_eq_some_iff.1 h).1)]; simp [iV, h]
theorem K9 (u : Value) (C : qV) (xs : List Int) (hs : SlC 3 1 u xs.length (iV xs) C) (hl : xs.length ≤ 1000000) :
    FnT Tryz.prog w0 78 #[u] (C :: F) (fun v L' => ∃ C', SlC 3 1 v (srt xs).length (iV (srt xs)) C' ∧ L' = C' :: C :: F) := by
  obtain ⟨pu, cu, hu⟩ := hs.slice
  refine qi (E0 := [(0, _)]) (N := 47) Tryz.func78 rfl rfl rfl rfl ?_
  refine qO <| qE rfl <| qm <| qE rfl <| qF <| qN <| qO <| qE rfl <| qF <| qg <| wS (Γ := {pΓ : (Nat) × (Value) × (qV) × (List Int) // (fun (i : Nat) (uo : Value) (Co : qV) (os : List Int) => i ≤ xs.length ∧ SlC 3 1 uo os.length (iV os) Co ∧ os = We (xs.take i)) pΓ.1 pΓ.2.1 pΓ.2.2.1 pΓ.2.2.2}) (fun g => (fun (i : Nat) (uo : Value) (Co : qV) (os : List Int) => [(0, u), (3, uo), (4, .int .i64 i)]) g.1.1 g.1.2.1 g.1.2.2.1 g.1.2.2.2) (fun g => (fun (i : Nat) (uo : Value) (Co : qV) (os : List Int) => Co :: C :: F) g.1.1 g.1.2.1 g.1.2.2.1 g.1.2.2.2) (fun g => (fun (i : Nat) (uo : Value) (Co : qV) (os : List Int) => xs.length - i) g.1.1 g.1.2.1 g.1.2.2.1 g.1.2.2.2) ⟨(0, .slice none 0 0, [], []), by dsimp only; exact ⟨by omega, SlC.nil _ _, rfl⟩⟩ (qX _) ?_
  rintro ⟨⟨i, uo, Co, os⟩, hloop⟩
  replace hloop : i ≤ xs.length ∧ SlC 3 1 uo os.length (iV os) Co ∧ os = We (xs.take i) := hloop
  obtain ⟨hi, hsl, hos⟩ := hloop
  show Tr _ _ _ ([(0, u), (3, uo), (4, .int .i64 i)]) (Co :: C :: F) _ _
  refine qN <| qO <| qA rfl <| qA rfl <| q9 (w8 (by rw [← hu]; rfl)) ?_
  refine q9 (wJ rfl rfl) <| qF <| qM rfl (fun hc3 => ?_) (fun hc3 => ?_)
  ·
   refine qZ <| qJ <| qN <| qg <| qN ?_
   obtain ⟨x, hx⟩ : ∃ x, xs[i]? = some x := ⟨_, List.getElem?_eq_getElem (by omega)⟩
   have hol : os.length = i := by rw [hos, insAll_len]; simp; omega
   obtain ⟨po, co, hvo, hcap⟩ := hsl.slice2
   subst hvo
   rcases hs with ⟨-, h0, -⟩ | ⟨bu, cu2, spu, hu2, hcu, rfl, hcapu, hncu⟩
   · omega
   subst hu2
   refine qK <| qE rfl <| qF <| zY (Γ := {pΓ : (Nat) // (fun (k : Nat) => k ≤ os.length ∧ (∀ y ∈ os.take k, y ≤ x) ∧ (∀ y, os[k]? = some y → x < y)) pΓ}) (fun g => (fun (k : Nat) => [(0, .slice (some ⟨bu, 0, none⟩) xs.length cu2), (3, .slice po os.length co), (4, .int .i64 i), (5, .int .i64 k)]) g.1) (fun g => (fun (k : Nat) => Co :: [(bu, .cells (iV xs ++ spu).toArray 3 (0, 0))] :: F) g.1) ?_ ?_
   ·
    refine qg <| wS (Γ := {pΓ : (Nat) // (fun (k : Nat) => k ≤ os.length ∧ ∀ y ∈ os.take k, y ≤ x) pΓ}) (fun g => (fun (k : Nat) => [(0, .slice (some ⟨bu, 0, none⟩) xs.length cu2), (3, .slice po os.length co), (4, .int .i64 i), (5, .int .i64 k)]) g.1) (fun g => (fun (k : Nat) => Co :: [(bu, .cells (iV xs ++ spu).toArray 3 (0, 0))] :: F) g.1) (fun g => (fun (k : Nat) => os.length - k) g.1) ⟨0, by dsimp only; exact ⟨by omega, by simp⟩⟩ (qX _) ?_
    rintro ⟨k, hloop⟩
    replace hloop : k ≤ os.length ∧ ∀ y ∈ os.take k, y ≤ x := hloop
    obtain ⟨hk, hle⟩ := hloop
    show Tr _ _ _ ([(0, .slice (some ⟨bu, 0, none⟩) xs.length cu2), (3, .slice po os.length co), (4, .int .i64 i), (5, .int .i64 k)]) (Co :: [(bu, .cells (iV xs ++ spu).toArray 3 (0, 0))] :: F) _ _
    refine qN <| qN <| wT wB <| wD [(13, .pure _), (14, .pure _), (15, .pure _)] (by kernel_rfl) rfl rfl rfl wm (qC rfl (fun X => qP rfl) <| qC rfl (fun X => qP rfl) <| qC rfl (fun X => w8 rfl) <| ParH.nil rfl) ?_
    dsimp only [ze, List.drop, List.length]
    refine wE (by kernel_rfl) (wJ rfl rfl) ?_
    refine wE (by kernel_rfl) (qP rfl) ?_
    refine kK (s := 17) rfl (fun hg6_4 => ?_) (fun hg6_4 => ?_)
    ·
     obtain ⟨y, hy⟩ : ∃ y, os[k]? = some y := ⟨_, List.getElem?_eq_getElem (by omega)⟩
     rcases id hsl with ⟨-, h0, -⟩ | ⟨b, cap, spare, hv, hcs, rfl, hcapo, hnc⟩
     · omega
     cases hv
     refine wD [(18, .pure _), (19, .pure _), (20, .pure _), (21, .pure _), (22, .pure _), (23, .pure _), (24, .pure _), (25, .pure _)] (by kernel_rfl) rfl rfl rfl wm (wi rfl rfl rfl (fun X => qP rfl) <| wi rfl rfl rfl (fun X => qP rfl) <| wi rfl rfl rfl (fun X => qx (j := k) (off := k * 1) rfl rfl rfl (by omega) (by simp)) <| wi rfl rfl rfl (fun X => qI rfl (jl hy)) <| wi rfl rfl rfl (fun X => qP rfl) <| wi rfl rfl rfl (fun X => qP rfl) <| wi rfl rfl rfl (fun X => qx (j := i) (off := i * 1) rfl rfl rfl (by omega) (by simp)) <| wi rfl rfl rfl (fun X => qI rfl (jl hx)) <| ParH.nil rfl) ?_
     dsimp only [ze, List.drop, List.length]
     refine kn (by kernel_rfl) rfl rfl (KI rfl rfl) ?_
     refine wE (by kernel_rfl) (qq rfl rfl) ?_
     refine wI <| qJ <| qM rfl (fun hc6 => ?_) (fun hc6 => ?_)
     ·
      refine qZ <| qJ <| qg <| qK <| qA rfl <| q9 (w9 rfl rfl (by omega)) <| qE rfl <| qT <| qe <| w6 ⟨k + 1, ?_⟩ ?_ ?_
      ·
       try dsimp only
       refine ⟨by omega, fun z hz => ?_⟩
       rw [List.take_add_one, hy] at hz
       rcases List.mem_append.1 hz with hz | hz
       · exact hle z hz
       · obtain rfl : z = y := by simpa using hz
         omega
      · (try dsimp only); omega
      · (try dsimp only); exact qX _
     ·
      refine wa <| qr <| qt <| qh <| qW ⟨k, ?_⟩ ?_
      ·
       try dsimp only
       first
       | exact ⟨hk, hle, fun z hz => by rw [hy] at hz; cases hz; omega⟩
       | exact ⟨hk, hle, fun z hz => by have := (List.getElem?_eq_some_iff.1 hz).1; omega⟩
      · (try dsimp only); exact qX _
    ·
     refine wD [(18, .pure undef), (19, .pure undef), (20, .pure undef), (21, .pure undef), (22, .pure undef), (23, .pure undef), (24, .pure undef), (25, .pure undef)] (by kernel_rfl) rfl rfl rfl wm (zf rfl rfl rfl rfl <| zf rfl rfl rfl rfl <| zf rfl rfl rfl rfl <| zf rfl rfl rfl rfl <| zf rfl rfl rfl rfl <| zf rfl rfl rfl rfl <| zf rfl rfl rfl rfl <| zf rfl rfl rfl rfl <| ParH.nil rfl) ?_
     dsimp only [ze, List.drop, List.length]
     refine jK (by kernel_rfl) rfl rfl rfl ?_
     refine wE (by kernel_rfl) (qU rfl rfl) ?_
     refine wI <| qJ <| wV rfl <| wa <| qr <| qt <| qh <| qW ⟨k, ?_⟩ ?_
     ·
      try dsimp only
      first
      | exact ⟨hk, hle, fun z hz => by rw [hy] at hz; cases hz; omega⟩
      | exact ⟨hk, hle, fun z hz => by have := (List.getElem?_eq_some_iff.1 hz).1; omega⟩
     · (try dsimp only); exact qX _
   rintro ⟨k, hcut⟩
   replace hcut : k ≤ os.length ∧ (∀ y ∈ os.take k, y ≤ x) ∧ (∀ y, os[k]? = some y → x < y) := hcut
   obtain ⟨hk, hle, hgt⟩ := hcut
   show Tr _ _ _ ([(0, .slice (some ⟨bu, 0, none⟩) xs.length cu2), (3, .slice po os.length co), (4, .int .i64 i), (5, .int .i64 k)]) (Co :: [(bu, .cells (iV xs ++ spu).toArray 3 (0, 0))] :: F) _ _
   refine qO <| qG (op_buildSlice0) ?_
   rintro t30 _ ⟨be, rfl, rfl⟩
   refine qA rfl <| qA rfl <| q9 (kq (kl := .i64) (kh := .i64) (l := 0) (h := k) rfl rfl rfl (by omega) (by omega) hcap) <| qG (wg (m := k - 0) (sz := 1) rfl rfl (SlC.fresh (b := be) (n := 0) (cs := []) rfl) (Qr (l := 0) (h := k) hsl (by omega) (by omega)) (by rw [QV]; exact xY _) Tryz.underlying39 rfl rfl (by omega)) ?_
   rintro t34 _ ⟨C', hs', rfl⟩
   refine qE rfl <| qT ?_
   have hs2 : SlC 3 1 t34 k (iV (os.take k)) C' := by rw [List.nil_append, QV] at hs'; simpa using hs'
   refine qJ <| yb wB (show TrS _ _ _ _ [false, false, false, false, false, false, false, false, false, false, false, false] _ _ _ from ?_)
   refine qH 0 rfl rfl rfl (wO rfl) <| qH 1 rfl rfl rfl (wO rfl) <| qH 2 rfl rfl rfl (wO rfl) <| qH 3 rfl rfl rfl (ws (j := i) (off := i * 1) rfl rfl rfl (by omega) (by simp)) ?_
   refine qH 7 rfl rfl rfl (wO rfl) <| qH 8 rfl rfl rfl (wO rfl) <| wv (i := 4) (j := 9) (by kernel_rfl) rfl ?_ ?_
   ·
    refine qd rfl rfl rfl (qI rfl (jl hx)) <| wv (i := 5) (j := 9) (by kernel_rfl) rfl ?_ ?_
    ·
     refine w7 rfl rfl rfl (wK rfl rfl rfl) ?_
     rintro t40 _ ⟨b40, rfl, rfl⟩
     refine wv (i := 6) (j := 9) (by kernel_rfl) rfl ?_ ?_
     ·
      refine w7 rfl rfl rfl (wg (m := 1) (sz := 1) rfl rfl hs2 (wk (ys := iV [x]) inferInstance rfl rfl) rfl Tryz.underlying39 rfl rfl (by omega)) ?_
      rintro t41 _ ⟨C2, hs3, rfl⟩
      refine qS 9 rfl <| qd rfl rfl rfl (kq (kl := .i64) (kh := .i64) (l := k) (h := os.length) rfl rfl rfl (by omega) (by omega) hcap) <| qS 10 rfl <| w7 rfl rfl rfl (wg (m := os.length - k) (sz := 1) rfl rfl hs3 (Qr (l := k) (h := os.length) hsl (by omega) (by omega)) (by rw [QV]; exact xY _) Tryz.underlying39 rfl rfl (by omega)) ?_
      rintro t45 _ ⟨C4, hs4, rfl⟩
      refine qH 11 rfl rfl rfl (wP rfl) <| wF <| qe <| qJ <| qK <| qA rfl <| q9 (w9 rfl rfl (by omega)) <| qE rfl <| qT <| w6 ⟨(i + 1, t45, C4, QU x os), ?_⟩ ?_ ?_
      ·
       try dsimp only
       have e := Yq x os k hk hle hgt
       have el : (QU x os).length = k + 1 + (os.length - k) := by rw [← e]; simp; omega
       have ev : iV (os.take k ++ [x] ++ os.drop k) = iV (os.take k) ++ iV [x] ++ ((iV os).drop (k * 1)).take ((os.length - k) * 1) := by rw [QV, Nat.mul_one, Nat.mul_one, List.take_of_length_le (l := os.drop k) (by rw [List.length_drop]; omega)]; simp [iV]
       refine ⟨by omega, by rw [el, ← e, ev]; exact hs4, ?_⟩
       rw [hos]; unfold We; rw [List.take_add_one, hx, List.foldl_append]; rfl
      · (try dsimp only); omega
      · (try dsimp only); exact qX _
     ·
      refine qd rfl rfl rfl (kq (kl := .i64) (kh := .i64) (l := k) (h := os.length) rfl rfl rfl (by omega) (by omega) hcap) <| qS 6 rfl <| w7 rfl rfl rfl (wg (m := 1) (sz := 1) rfl rfl hs2 (wk (ys := iV [x]) inferInstance rfl rfl) rfl Tryz.underlying39 rfl rfl (by omega)) ?_
      rintro t41 _ ⟨C2, hs3, rfl⟩
      refine qS 10 rfl <| w7 rfl rfl rfl (wg (m := os.length - k) (sz := 1) rfl rfl hs3 (Qr (l := k) (h := os.length) hsl (by omega) (by omega)) (by rw [QV]; exact xY _) Tryz.underlying39 rfl rfl (by omega)) ?_
      rintro t45 _ ⟨C4, hs4, rfl⟩
      refine qH 11 rfl rfl rfl (wP rfl) <| wF <| qe <| qJ <| qK <| qA rfl <| q9 (w9 rfl rfl (by omega)) <| qE rfl <| qT <| w6 ⟨(i + 1, t45, C4, QU x os), ?_⟩ ?_ ?_
      ·
       try dsimp only
       have e := Yq x os k hk hle hgt
       have el : (QU x os).length = k + 1 + (os.length - k) := by rw [← e]; simp; omega
       have ev : iV (os.take k ++ [x] ++ os.drop k) = iV (os.take k) ++ iV [x] ++ ((iV os).drop (k * 1)).take ((os.length - k) * 1) := by rw [QV, Nat.mul_one, Nat.mul_one, List.take_of_length_le (l := os.drop k) (by rw [List.length_drop]; omega)]; simp [iV]
       refine ⟨by omega, by rw [el, ← e, ev]; exact hs4, ?_⟩
       rw [hos]; unfold We; rw [List.take_add_one, hx, List.foldl_append]; rfl
      · (try dsimp only); omega
      · (try dsimp only); exact qX _
    ·
     refine qd rfl rfl rfl (kq (kl := .i64) (kh := .i64) (l := k) (h := os.length) rfl rfl rfl (by omega) (by omega) hcap) <| qS 5 rfl <| w7 rfl rfl rfl (wK rfl rfl rfl) ?_
     rintro t40 _ ⟨b40, rfl, rfl⟩
     refine qS 6 rfl <| w7 rfl rfl rfl (wg (m := 1) (sz := 1) rfl rfl hs2 (wk (ys := iV [x]) inferInstance rfl rfl) rfl Tryz.underlying39 rfl rfl (by omega)) ?_
     rintro t41 _ ⟨C2, hs3, rfl⟩
     refine qS 10 rfl <| w7 rfl rfl rfl (wg (m := os.length - k) (sz := 1) rfl rfl hs3 (Qr (l := k) (h := os.length) hsl (by omega) (by omega)) (by rw [QV]; exact xY _) Tryz.underlying39 rfl rfl (by omega)) ?_
     rintro t45 _ ⟨C4, hs4, rfl⟩
     refine qH 11 rfl rfl rfl (wP rfl) <| wF <| qe <| qJ <| qK <| qA rfl <| q9 (w9 rfl rfl (by omega)) <| qE rfl <| qT <| w6 ⟨(i + 1, t45, C4, QU x os), ?_⟩ ?_ ?_
     ·
      try dsimp only
      have e := Yq x os k hk hle hgt
      have el : (QU x os).length = k + 1 + (os.length - k) := by rw [← e]; simp; omega
      have ev : iV (os.take k ++ [x] ++ os.drop k) = iV (os.take k) ++ iV [x] ++ ((iV os).drop (k * 1)).take ((os.length - k) * 1) := by rw [QV, Nat.mul_one, Nat.mul_one, List.take_of_length_le (l := os.drop k) (by rw [List.length_drop]; omega)]; simp [iV]
      refine ⟨by omega, by rw [el, ← e, ev]; exact hs4, ?_⟩
      rw [hos]; unfold We; rw [List.take_add_one, hx, List.foldl_append]; rfl
     · (try dsimp only); omega
     · (try dsimp only); exact qX _
   ·
    refine qd rfl rfl rfl (kq (kl := .i64) (kh := .i64) (l := k) (h := os.length) rfl rfl rfl (by omega) (by omega) hcap) <| qS 4 rfl <| qd rfl rfl rfl (qI rfl (jl hx)) <| qS 5 rfl <| w7 rfl rfl rfl (wK rfl rfl rfl) ?_
    rintro t40 _ ⟨b40, rfl, rfl⟩
    refine qS 6 rfl <| w7 rfl rfl rfl (wg (m := 1) (sz := 1) rfl rfl hs2 (wk (ys := iV [x]) inferInstance rfl rfl) rfl Tryz.underlying39 rfl rfl (by omega)) ?_
    rintro t41 _ ⟨C2, hs3, rfl⟩
    refine qS 10 rfl <| w7 rfl rfl rfl (wg (m := os.length - k) (sz := 1) rfl rfl hs3 (Qr (l := k) (h := os.length) hsl (by omega) (by omega)) (by rw [QV]; exact xY _) Tryz.underlying39 rfl rfl (by omega)) ?_
    rintro t45 _ ⟨C4, hs4, rfl⟩
    refine qH 11 rfl rfl rfl (wP rfl) <| wF <| qe <| qJ <| qK <| qA rfl <| q9 (w9 rfl rfl (by omega)) <| qE rfl <| qT <| w6 ⟨(i + 1, t45, C4, QU x os), ?_⟩ ?_ ?_
    ·
     try dsimp only
     have e := Yq x os k hk hle hgt
     have el : (QU x os).length = k + 1 + (os.length - k) := by rw [← e]; simp; omega
     have ev : iV (os.take k ++ [x] ++ os.drop k) = iV (os.take k) ++ iV [x] ++ ((iV os).drop (k * 1)).take ((os.length - k) * 1) := by rw [QV, Nat.mul_one, Nat.mul_one, List.take_of_length_le (l := os.drop k) (by rw [List.length_drop]; omega)]; simp [iV]
     refine ⟨by omega, by rw [el, ← e, ev]; exact hs4, ?_⟩
     rw [hos]; unfold We; rw [List.take_add_one, hx, List.foldl_append]; rfl
    · (try dsimp only); omega
    · (try dsimp only); exact qX _
  ·
   refine wa <| qr <| qt <| qh <| qJ <| qN ?_
   obtain rfl : i = xs.length := by omega
   rw [List.take_length, insAll_srt] at hos
   subst hos
   refine qK <| qA rfl <| qE rfl <| qF <| qy <| wC (Co :: C :: F) (.inl rfl) rfl (qu rfl) ?_
   exact ⟨Co, hsl, rfl⟩
def nz (l : List Int) : List Int := l.filter (fun a => decide (a ≠ 0))
end
end Go.Proofs.YtjikpomndbkfgaaGreatDoor
