/- NodeElsewhere: for every input that the statement's row lets in the law answers true and its arguments read as before; conditions: none beyond the row's own (part 4; joined, pruned and shortened by a program of the prover's own: names of two letters stand for longer ones.) -/
import Derived.Test.YtjikpomndbkfgaaGreatDoorEL3
set_option linter.all false
set_option linter.unusedVariables false
set_option linter.unusedSimpArgs false
set_option linter.unusedSectionVars false
namespace Go.Proofs.YtjikpomndbkfgaaGreatDoor
open Go Go.Sx Go.Nd
variable {w0 : World} {L F : Res}
set_option maxRecDepth 10000
theorem QV {P : Program} {N : Nat} {E : Env} {x : Operand} {t ty e sz N' b off : Nat} [ht : jd P t N' e] [hsz : TySize P e sz] (hx : opv E x = some (.pointer (some ⟨b, off, none⟩))) (hN : Nat.ble 1 N' = true := by rfl) :
    Op1 P N w0 E L (.slice t x none none none) ty (.slice (some ⟨b, off, none⟩) N' N') L := by
  have h1 := Nat.le_of_ble_eq_true hN
  have := k7 (P := P) (N := N) (w0 := w0) (L := L) (ty := ty) (t := t) (lo := none) (hi := none) (l := 0) (h := N') (kl := .i64) (kh := .i64) (sz := sz) (N' := N') hx rfl rfl (by omega) (by omega)
  rw [if_neg (by omega)] at this
  simpa using this
def jI : List Int → Int → (Int × Int → Option Int) → (Int × Int → Option Int)
  | [], _, f => f
  | x :: xs, b, f => jI xs (b + 1) (if x ≠ 0 then upd f (1, b) (some x) else f)
def yV (l f : Int) : Int := (if l = 0 then 0 else if l = 1 then 8 else 40) + f * 32
theorem blocks_node_ok (lp p ma bl off c : Nat) (n : NS) (md ms : Nat) (u rv : Value) (oa : Obj) (f : Int × Int → Option Int) (hf : MapF yU (Value.int .i64) f oa) (lc : List Value) (et : TypeId) (fr : Nat × Nat) (xs : List Int) (lv lf sl : Int)
    (hl : 0 ≤ lv ∧ lv ≤ 2) (hlf : 0 ≤ lf ∧ (lf = 0 ∨ lv = 2 ∧ lf < 32)) (hx : xs.length ≤ (if lv = 0 then 8 else 32)) (hc : ∀ (i : Nat) x, xs[i]? = some x → wG lc (off + i * 1) = some (.int .i64 x)) :
    FnT Tryz.prog w0 92 #[.pointer (some ⟨lp, 0, none⟩), .agg [.int .i64 lv, .int .i64 lf, .int .i64 sl].toArray, .slice (some ⟨bl, off, none⟩) xs.length c]
      ([(lp, .cells [.pointer (some ⟨p, 0, none⟩), rv, .int .i64 0].toArray 173 (0, 0))] :: [(p, .cells (wz n ma md ms u).toArray 90 (0, 0))] :: [(ma, oa)] :: [(bl, .cells lc.toArray et fr)] :: F)
      (fun v L' => v = .tuple #[] ∧ ∃ oa', MapF yU (Value.int .i64) (jI xs (yV lv lf) f) oa' ∧
        L' = [(lp, .cells [.pointer (some ⟨p, 0, none⟩), rv, .int .i64 0].toArray 173 (0, 0))] :: [(p, .cells (wz n ma md ms u).toArray 90 (0, 0))] :: [(ma, oa')] :: [(bl, .cells lc.toArray et fr)] :: F) := by
  unfold wz
  have hxl : xs.length ≤ 32 := by split at hx <;> omega
  refine FnT.enter (E0 := [(0, _), (1, _), (2, _)]) (N := 37) Tryz.func92 rfl rfl rfl rfl ?_
  refine Tr.seq <| Tr.region <| qF (wT rfl) ?_
  rintro t4 _ ⟨b4, rfl, rfl⟩
  refine qB <| QAt.seq <| Tr.seq <| Tr.region <| q9 (qA rfl) <| q9 (qg rfl) <| q9 (qA rfl) <| qB <| QAt.seq <| Tr.block <| wB (Γ := {pΓ : (Nat) × (Obj) × (Int × Int → Option Int) × (Int) // (fun (i : Nat) (oa : Obj) (f' : Int × Int → Option Int) (sl : Int) => i ≤ xs.length ∧ MapF yU (Value.int .i64) f' oa ∧ jI (xs.drop i) (yV lv lf + i) f' = jI xs (yV lv lf) f) pΓ.1 pΓ.2.1 pΓ.2.2.1 pΓ.2.2.2}) (fun g => (fun (i : Nat) (oa : Obj) (f' : Int × Int → Option Int) (sl : Int) => [(0, .pointer (some ⟨lp, 0, none⟩)), (4, .pointer (some ⟨b4, 0, none⟩)), (10, .slice (some ⟨bl, off, none⟩) xs.length c), (11, .int .i64 xs.length), (12, .int .i64 i)]) g.1.1 g.1.2.1 g.1.2.2.1 g.1.2.2.2) (fun g => (fun (i : Nat) (oa : Obj) (f' : Int × Int → Option Int) (sl : Int) => [(b4, .cells [.int .i64 lv, .int .i64 lf, .int .i64 sl].toArray 160 (0, 0))] :: [(lp, .cells [.pointer (some ⟨p, 0, none⟩), rv, .int .i64 0].toArray 173 (0, 0))] :: [(p, .cells [.int .u32 n.num, .int .u32 n.ver, .int .i64 n.kind, .int .i64 n.size, .int .u32 n.time, .map (some ma), .map (some md), .map (some ms), u].toArray 90 (0, 0))] :: [(ma, oa)] :: [(bl, .cells lc.toArray et fr)] :: F) g.1.1 g.1.2.1 g.1.2.2.1 g.1.2.2.2) (fun g => (fun (i : Nat) (oa : Obj) (f' : Int × Int → Option Int) (sl : Int) => xs.length - i) g.1.1 g.1.2.1 g.1.2.2.1 g.1.2.2.2) ⟨(0, oa, f, sl), by dsimp only; exact ⟨by omega, hf, by simp⟩⟩ (qP _) ?_
  rintro ⟨⟨i, oa, f', sl⟩, hloop⟩
  replace hloop : i ≤ xs.length ∧ MapF yU (Value.int .i64) f' oa ∧ jI (xs.drop i) (yV lv lf + i) f' = jI xs (yV lv lf) f := hloop
  obtain ⟨hi, hf', hp⟩ := hloop
  show Tr _ _ _ ([(0, .pointer (some ⟨lp, 0, none⟩)), (4, .pointer (some ⟨b4, 0, none⟩)), (10, .slice (some ⟨bl, off, none⟩) xs.length c), (11, .int .i64 xs.length), (12, .int .i64 i)]) ([(b4, .cells [.int .i64 lv, .int .i64 lf, .int .i64 sl].toArray 160 (0, 0))] :: [(lp, .cells [.pointer (some ⟨p, 0, none⟩), rv, .int .i64 0].toArray 173 (0, 0))] :: [(p, .cells [.int .u32 n.num, .int .u32 n.ver, .int .i64 n.kind, .int .i64 n.size, .int .u32 n.time, .map (some ma), .map (some md), .map (some ms), u].toArray 90 (0, 0))] :: [(ma, oa)] :: [(bl, .cells lc.toArray et fr)] :: F) _ _
  refine Tr.seq <| Tr.region <| q9 (qv rfl rfl) <| qB <| QAt.seq <| Tr.seq <| qI rfl (fun hc2 => ?_) (fun hc2 => ?_)
  ·
   refine Tr.skip <| QAt.seq <| Tr.seq <| Tr.block <| Tr.seq ?_
   obtain ⟨x, hx1⟩ : ∃ x, xs[i]? = some x := ⟨_, List.getElem?_eq_getElem (by omega)⟩
   rw [yo hx1, jI] at hp
   refine Tr.region <| q9 (qA rfl) <| q9 (qf (j := i) (off := off + i * 1) rfl rfl rfl (by omega) (by simp)) ?_
   refine q9 (qG rfl (hc i x hx1)) <| q9 (qC rfl) <| q9 (qC rfl) <| qB <| QAt.seq <| Tr.seq <| Tr.region <| q9 (qA rfl) <| q9 (wZ rfl rfl) <| qB <| QAt.seq <| qI rfl (fun hc4 => ?_) (fun hc4 => ?_)
   ·
    refine Tr.seq <| Tr.region <| q9 (qA rfl) <| q9 (qD rfl) <| qK (wX rfl rfl rfl) <| qB <| QAt.seq <| Tr.seq <| Tr.region <| q9 (wE rfl) <| q9 (qw rfl (Yz lv lf i hl hlf ⟨by omega, by split at hx <;> (rename_i h; first | rw [if_pos h] | rw [if_neg h]) <;> omega⟩)) <| q9 (qA rfl) <| q9 (qR rfl rfl) <| q9 (qR rfl rfl) <| q9 (qC rfl) <| q9 (qC rfl) <| qB <| QAt.seq <| Tr.region <| q9 (qA rfl) <| q9 (qJ rfl) <| q9 (qD rfl) <| q9 (qG rfl rfl) <| q9 (qJ rfl) <| q9 (qD rfl) <| q9 (qG rfl rfl) <| q9 (qA rfl) <| q9 (wF rfl) <| q9 (qA rfl) <| zY (wu (r := ma) (q := (1, yV lv lf + i)) (v := x) rfl rfl rfl hf') ?_
    rintro _ _ ⟨oa', hoa', rfl⟩
    refine qB <| QAt.block <| QAt.seq <| Tr.region <| q9 (qj rfl rfl (by omega)) <| q9 (qA rfl) <| qB <| qh ⟨(i + 1, oa', upd f' (1, yV lv lf + i) (some x), i), ?_⟩ ?_ ?_
    · (try dsimp only); rw [if_pos hc4] at hp; exact ⟨by omega, hoa', by rw [← hp, Int.add_assoc]; rfl⟩
    · (try dsimp only); omega
    · (try dsimp only); exact qP _
   ·
    refine Tr.skip <| QAt.block <| QAt.seq <| Tr.region <| q9 (qj rfl rfl (by omega)) <| q9 (qA rfl) <| qB <| qh ⟨(i + 1, oa, f', sl), ?_⟩ ?_ ?_
    · (try dsimp only); rw [if_neg hc4] at hp; exact ⟨by omega, hf', by rw [← hp, Int.add_assoc]; rfl⟩
    · (try dsimp only); omega
    · (try dsimp only); exact qP _
  ·
   refine Tr.exit <| qX <| qY <| qS <| ye ([(lp, .cells [.pointer (some ⟨p, 0, none⟩), rv, .int .i64 0].toArray 173 (0, 0))] :: [(p, .cells [.int .u32 n.num, .int .u32 n.ver, .int .i64 n.kind, .int .i64 n.size, .int .u32 n.time, .map (some ma), .map (some md), .map (some ms), u].toArray 90 (0, 0))] :: [(ma, oa)] :: [(bl, .cells lc.toArray et fr)] :: F) (.inr rfl) rfl  ?_
   rw [List.drop_of_length_le (by omega), jI] at hp
   exact ⟨rfl, oa, by rw [← hp]; exact hf', rfl⟩
def yq : List Int := List.replicate 32 0
theorem Yr (lp p ma : Nat) (n : NS) (md ms : Nat) (u rv : Value) (oa : Obj) (f : Int × Int → Option Int) (hf : MapF yU (Value.int .i64) f oa) (D : qM) (g : Int → Option Sec) (hr : YJ rv D g) (k : Int × Int) (a : Int)
    (ll : List Int) (hll : j2 ll) (h0 : a = 0 → ll = yq) (h1 : a ≠ 0 → g a = some (jU ll hll)) :
    FnT Tryz.prog w0 93 #[.pointer (some ⟨lp, 0, none⟩), yU k, .int .i64 a]
      ([(lp, .cells [.pointer (some ⟨p, 0, none⟩), rv, .int .i64 0].toArray 173 (0, 0))] :: [(p, .cells (wz n ma md ms u).toArray 90 (0, 0))] :: [(ma, oa)] :: D :: F)
      (fun v L' => v = .agg (iV ll).toArray ∧ ∃ oa', MapF yU (Value.int .i64) (if a = 0 then f else upd f k (some a)) oa' ∧
        L' = [(lp, .cells [.pointer (some ⟨p, 0, none⟩), rv, .int .i64 0].toArray 173 (0, 0))] :: [(p, .cells (wz n ma md ms u).toArray 90 (0, 0))] :: [(ma, oa')] :: D :: F) := by
  unfold wz
  rw [show yU k = Value.agg [.int .i64 k.1, .int .i64 k.2].toArray from rfl]
  have hlen := hll.len
  refine FnT.enter (E0 := [(0, _), (1, _), (2, _)]) (N := 55) Tryz.func93 rfl rfl rfl rfl ?_
  refine Tr.seq <| Tr.region <| qF (wT rfl) ?_
  rintro t4 _ ⟨b4, rfl, rfl⟩
  refine qF (qV) ?_
  rintro t6 _ ⟨b6, rfl, rfl⟩
  refine qB <| QAt.seq <| Tr.seq <| Tr.seq <| Tr.region <| q9 (qA rfl) <| q9 (wR rfl rfl) <| q9 (qA rfl) <| qN (s := 12) rfl (fun hg1_2 => ?_) (fun hg1_2 => ?_)
  ·
   have ha0 : a = 0 := hg1_2
   refine qH rfl rfl rfl <| qH rfl rfl rfl <| qH rfl rfl rfl <| qH rfl rfl rfl <| qH rfl rfl rfl <| q9 (qT rfl rfl) <| qB <| QAt.seq <| ww rfl <| Tr.seq <| Tr.region <| q9 (yn (z := .agg (iV yq).toArray) rfl Tryz.underlying175 rfl (fun _ h => by cases h) (fun _ _ h => by cases h; exact ⟨_, inferInstance⟩)) ?_
   refine qK (qW (vs := iV yq) rfl rfl rfl rfl (x3 _)) <| qB <| QAt.seq <| Tr.ret <| qe <| qs ([(lp, .cells [.pointer (some ⟨p, 0, none⟩), rv, .int .i64 0].toArray 173 (0, 0))] :: [(p, .cells [.int .u32 n.num, .int .u32 n.ver, .int .i64 n.kind, .int .i64 n.size, .int .u32 n.time, .map (some ma), .map (some md), .map (some ms), u].toArray 90 (0, 0))] :: [(ma, oa)] :: D :: F) (.inl rfl) rfl (z7 rfl (by simp [hlen, yq])) ?_
   exact ⟨by rw [h0 ha0], oa, by rw [if_pos ha0]; exact hf, rfl⟩
  ·
   have ha0 : ¬ a = 0 := hg1_2
   refine qE rfl rfl (qA rfl) <| qE rfl rfl (qJ rfl) <| qE rfl rfl (qD rfl) <| qE rfl rfl (qG rfl rfl) <| qE rfl rfl (wZ rfl rfl) <| q9 (qL rfl rfl) <| qB <| QAt.seq <| qI rfl (fun hc1 => ?_) (fun hc1 => ?_)
   · exact absurd rfl hc1
   ·
    refine Tr.skip <| QAt.seq <| Tr.seq <| Tr.drawn qm <| qr [(20, .pure _), (21, .pure _), (22, .pure _), (23, .pure _), (24, .pure _), (25, .pure _), (26, .pure _), (27, .pure _), (28, .pure _)] (by kernel_rfl) rfl rfl rfl wL (ParH.pure rfl (fun X => qA rfl) <| ParH.pure rfl (fun X => qJ rfl) <| ParH.pure rfl (fun X => qD rfl) <| ParH.pure rfl (fun X => qG rfl rfl) <| ParH.pure rfl (fun X => qJ rfl) <| ParH.pure rfl (fun X => qD rfl) <| ParH.pure rfl (fun X => qG rfl rfl) <| ParH.pure rfl (fun X => wE rfl) <| ParH.pure rfl (fun X => qA rfl) <| ParH.nil rfl) ?_
    dsimp only [zG, List.drop, List.length]
    refine zL (by kernel_rfl) (wu (r := ma) (q := k) (v := a) rfl rfl rfl hf) ?_
    rintro _ _ ⟨oa', hoa', rfl⟩
    refine qt <| QAt.seq <| Tr.seq <| Tr.region <| q9 (qA rfl) <| q9 (qJ rfl) <| q9 (qD rfl) <| q9 (qG rfl rfl) <| q9 (qA rfl) <| q9 (yw rfl rfl (ZW D (hr w0 _ a))) ?_
    rw [h1 ha0]
    refine q9 (qA rfl) <| q9 (qR rfl rfl) <| q9 (qR rfl rfl) <| qF (qV) ?_
    rintro t7 _ ⟨b7, rfl, rfl⟩
    refine qK (qW rfl rfl (by simp) (by simp) (wS _)) ?_
    refine q9 (qC rfl) <| qB <| QAt.seq <| Tr.seq <| Tr.seq <| Tr.region <| q9 (qA rfl) <| q9 (wZ rfl rfl) <| qB <| QAt.seq <| qI rfl (fun hc5 => ?_) (fun hc5 => ?_)
    · exact absurd rfl hc5
    ·
     refine Tr.skip <| QAt.seq <| Tr.seq <| Tr.region <| q9 (w7 rfl (by simp)) ?_
     refine q9 (qw rfl (readPointers_ok ll hll)) <| q9 (qA rfl) <| q9 (qR rfl rfl) <| q9 (qR rfl rfl) <| qF (qV) ?_
     rintro t9 _ ⟨b9, rfl, rfl⟩
     refine qK (qW rfl rfl (by simp) (by simp [hlen]) (x3 _)) ?_
     refine q9 (qC rfl) <| qB <| QAt.seq <| Tr.seq <| Tr.region <| q9 (qA rfl) <| q9 (qA rfl) <| q9 (qJ rfl) <| q9 (qD rfl) <| qK (wX rfl rfl rfl) <| qB <| QAt.seq <| Tr.seq <| Tr.region <| q9 (w7 rfl (by simp [hlen])) ?_
     refine qK (qW rfl rfl (by simp) (by simp [hlen]) (x3 _)) ?_
     refine qB <| QAt.seq <| Tr.ret <| qs ([(lp, .cells [.pointer (some ⟨p, 0, none⟩), rv, .int .i64 0].toArray 173 (0, 0))] :: [(p, .cells [.int .u32 n.num, .int .u32 n.ver, .int .i64 n.kind, .int .i64 n.size, .int .u32 n.time, .map (some ma), .map (some md), .map (some ms), u].toArray 90 (0, 0))] :: [(ma, oa')] :: D :: F) (.inl rfl) rfl (z7 rfl (by simp [hlen, yq])) ?_
     exact ⟨rfl, oa', by rw [if_neg ha0]; exact hoa', rfl⟩
theorem WE (lp p ma bl off c m : Nat) (n : NS) (md ms : Nat) (u rv : Value) (oa : Obj) (f : Int × Int → Option Int) (hf : MapF yU (Value.int .i64) f oa) (lc : List Value) (et : TypeId) (fr : Nat × Nat) (xs : List Int) (lv lf sl : Int) (hm : xs.length = m)
    (hl : 0 ≤ lv ∧ lv ≤ 2) (hlf : 0 ≤ lf ∧ (lf = 0 ∨ lv = 2 ∧ lf < 32)) (hx : m ≤ (if lv = 0 then 8 else 32)) (hc : ∀ (i : Nat) x, xs[i]? = some x → wG lc (off + i * 1) = some (.int .i64 x)) :
    FnT Tryz.prog w0 92 #[.pointer (some ⟨lp, 0, none⟩), .agg [.int .i64 lv, .int .i64 lf, .int .i64 sl].toArray, .slice (some ⟨bl, off, none⟩) m c]
      ([(lp, .cells [.pointer (some ⟨p, 0, none⟩), rv, .int .i64 0].toArray 173 (0, 0))] :: [(p, .cells (wz n ma md ms u).toArray 90 (0, 0))] :: [(ma, oa)] :: [(bl, .cells lc.toArray et fr)] :: F)
      (fun v L' => v = .tuple #[] ∧ ∃ oa', MapF yU (Value.int .i64) (jI xs (yV lv lf) f) oa' ∧
        L' = [(lp, .cells [.pointer (some ⟨p, 0, none⟩), rv, .int .i64 0].toArray 173 (0, 0))] :: [(p, .cells (wz n ma md ms u).toArray 90 (0, 0))] :: [(ma, oa')] :: [(bl, .cells lc.toArray et fr)] :: F) := by
  subst hm
  exact blocks_node_ok lp p ma bl off c n md ms u rv oa f hf lc et fr xs lv lf sl hl hlf hx hc
def WA (l2 : List Int) (ll : Nat → List Int) : Nat → (Int × Int → Option Int) → (Int × Int → Option Int)
  | 0, f => f
  | j + 1, f => jI (ll j) (yV 2 j) (if l2.getD j 0 = 0 then WA l2 ll j f else upd (WA l2 ll j f) (5, (j : Int)) (some (l2.getD j 0)))
def Jl (k : Int × Int) (a : Int) (f : Int × Int → Option Int) : Int × Int → Option Int := if a = 0 then f else upd f k (some a)
def Y5 (x : Ino) (a : Int) (l1 l2 : List Int) (ll : Nat → List Int) : Int × Int → Option Int :=
  WA l2 ll 32 (Jl (4, 0) x.db (jI l1 (yV 1 0) (Jl (3, 0) x.sg (jI x.d (yV 0 0) (upd (fun _ => none) (2, 0) (some a))))))
def Xe (x : Ino) (a : Int) (l1 l2 : List Int) (ll : Nat → List Int) : NS := ⟨x.num, x.ver, x.kind, x.size, x.time, Y5 x a l1 l2 ll, fun _ => none, fun _ => none, []⟩
theorem load_ok (G D : qM) (hg : kJ G) (x : Ino) (hx : x.Ok) (hsz : x.size ≤ 136192) (a : Int) (rv : Value) (g : Int → Option Sec) (hr : YJ rv D g) (l1 l2 : List Int) (ll : Nat → List Int)
    (h1 : j2 l1) (h10 : x.sg = 0 → l1 = yq) (h11 : x.sg ≠ 0 → g x.sg = some (jU l1 h1)) (h2 : j2 l2) (h20 : x.db = 0 → l2 = yq) (h21 : x.db ≠ 0 → g x.db = some (jU l2 h2))
    (h3 : ∀ i, j2 (ll i)) (h30 : ∀ i, l2.getD i 0 = 0 → ll i = yq) (h31 : ∀ i, i < 32 → l2.getD i 0 ≠ 0 → g (l2.getD i 0) = some (jU (ll i) (h3 i))) :
    FnT Tryz.prog w0 68 #[.agg (wW (ZA x hx)).toArray, .int .i64 a, rv] (D :: G :: F)
      (fun v L' => ∃ p Cn, v = .tuple #[.pointer (some ⟨p, 0, none⟩), .int .i64 0] ∧ NodeC p (Xe x a l1 l2 ll) Cn ∧ L' = Cn :: D :: G :: F) := by
  obtain ⟨e0, f0, e1, f1, e2, f2, hG⟩ := id hg
  have hxs := hx.size
  have hlen1 := h1.len
  have hlen2 := h2.len
  have hcv : x5 rv [rv] := by
    obtain ⟨rf, ra, rc, hrv, _, _⟩ := (hr w0 F 0).ex
    rw [hrv]; infer_instance
  refine FnT.enter (E0 := [(0, _), (1, _), (2, _)]) (N := 105) Tryz.func68 rfl rfl rfl rfl ?_
  refine Tr.seq <| Tr.region <| qF (wT rfl) ?_
  rintro t3 _ ⟨b3, rfl, rfl⟩
  refine q9 (qC rfl) <| q9 (qC rfl) <| qB <| QAt.seq <| Tr.seq <| Tr.region <| q9 (w7 rfl (by simp)) ?_
  refine q9 (qw rfl (readInode_ok x hx)) <| q9 (qA rfl) <| q9 (qR rfl rfl) <| q9 (qR rfl rfl) <| qF (qV) ?_
  rintro t8 _ ⟨b8, rfl, rfl⟩
  refine qK (qW rfl rfl WC (kU hx) (Yw x)) <| q9 (qC rfl) <| qB <| QAt.seq <| Tr.seq <| Tr.seq <| Tr.region <| q9 (qA rfl) <| q9 (wZ rfl rfl) <| q9 (qA rfl) <| qN (s := 24) rfl (fun hg2_2 => ?_) (fun hg2_2 => ?_)
  · exact absurd rfl hg2_2
  ·
   refine qE rfl rfl (qD rfl) <| qE rfl rfl (qG rfl rfl) <| qE rfl rfl (zd rfl rfl) <| q9 (qL rfl rfl) <| qB <| QAt.seq <| qI rfl (fun hc2 => ?_) (fun hc2 => ?_)
   · (exfalso; omega)
   ·
    refine Tr.skip <| QAt.seq <| Tr.seq <| Tr.region <| q9 (qD rfl) <| q9 (qG rfl rfl) <| q9 (qD rfl) <| q9 (qG rfl rfl) <| q9 (qD rfl) <| q9 (qG rfl rfl) <| qF (qn rfl (wM (G) (Xy G hg x.num x.ver x.kind))) ?_
    rintro t35 _ ⟨p, Cn, rfl, hn, rfl⟩
    refine q9 (qC rfl) <| qB <| QAt.seq <| Tr.seq ?_
    obtain ⟨ma, md, ms, oa, od, os, u, C, hM, hCn⟩ := hn.eq
    unfold wz Z7 at hCn
    dsimp only at hCn
    obtain ⟨n, hnd⟩ : ∃ n : NS, n = ⟨x.num, x.ver, x.kind, x.size, x.time, fun _ => none, fun _ => none, fun _ => none, []⟩ := ⟨_, rfl⟩
    refine yW (L' := [(p, .cells [.int .u32 x.num, .int .u32 x.ver, .int .i64 x.kind, .int .i64 0, .int .u32 0, .map (some ma), .map (some md), .map (some ms), u].toArray 90 (0, 0))] :: [(ma, oa)] :: [(md, od)] :: [(ms, os)] :: C :: G :: [(b8, .cells (zw x).toArray 168 (0, 0))] :: D :: F) (fun w hw => (qP ([(p, .cells [.int .u32 x.num, .int .u32 x.ver, .int .i64 x.kind, .int .i64 0, .int .u32 0, .map (some ma), .map (some md), .map (some ms), u].toArray 90 (0, 0))] :: [(ma, oa)] :: [(md, od)] :: [(ms, os)] :: C :: G :: [(b8, .cells (zw x).toArray 168 (0, 0))] :: D :: F)) w ((wH (L' := [(p, .cells [.int .u32 x.num, .int .u32 x.ver, .int .i64 x.kind, .int .i64 0, .int .u32 0, .map (some ma), .map (some md), .map (some ms), u].toArray 90 (0, 0))] :: [(ma, oa)] :: [(md, od)] :: [(ms, os)] :: C :: G :: [(b8, .cells (zw x).toArray 168 (0, 0))] :: [(b3, .cells (wW (ZA x hx)).toArray 55 (0, 0))] :: D :: F) (by rw [hCn]; simp)) w hw)) ?_
    refine Tr.region <| q9 (qA rfl) <| q9 (qA rfl) <| q9 (qD rfl) <| q9 (qG rfl rfl) <| q9 (qD rfl) <| q9 (qG rfl rfl) <| q9 (qJ rfl) <| q9 (qD rfl) <| qK (wX rfl rfl rfl) <| q9 (qJ rfl) <| q9 (qD rfl) <| qK (wX rfl rfl rfl) <| qB <| QAt.seq <| Tr.seq <| Tr.drawn qm <| qr [(46, .pure _), (47, .pure _), (48, .pure _), (49, .pure _), (50, .pure _), (51, .pure _)] (by kernel_rfl) rfl rfl rfl wL (ParH.pure rfl (fun X => qA rfl) <| ParH.pure rfl (fun X => qJ rfl) <| ParH.pure rfl (fun X => qD rfl) <| ParH.pure rfl (fun X => qG rfl rfl) <| ParH.pure rfl (fun X => yZ (b := 0) (off := 0) (c := [Value.int .i64 2, Value.int .i64 0].toArray) (e := e0) (fr := f0) (r := [.int .i64 2, .int .i64 0]) rfl (by rw [hG]; simp) rfl (by decide)) <| ParH.pure rfl (fun X => qA rfl) <| ParH.nil rfl) ?_
    dsimp only [zG, List.drop, List.length]
    refine zL (by kernel_rfl) (wu (r := ma) (q := (2, 0)) (v := a) rfl rfl rfl hM.a) ?_
    rintro _ _ ⟨oa1, ho1, rfl⟩
    refine qt <| QAt.seq <| Tr.seq <| Tr.region <| q9 (qA rfl) <| qF (k8) ?_
    rintro t53 _ ⟨b53, rfl, rfl⟩
    refine q9 (qJ rfl) <| q9 (qD rfl) <| qK (wX rfl rfl rfl) <| qB ?_
    have hnv : wz n ma md b53 u = [.int .u32 x.num, .int .u32 x.ver, .int .i64 x.kind, .int .i64 x.size, .int .u32 x.time, .map (some ma), .map (some md), .map (some b53), u] := by rw [hnd]; rfl
    refine z8 (qP ([(p, .cells [.int .u32 x.num, .int .u32 x.ver, .int .i64 x.kind, .int .i64 x.size, .int .u32 x.time, .map (some ma), .map (some md), .map (some b53), u].toArray 90 (0, 0))] :: [(ma, oa1)] :: [(md, od)] :: [(b53, .map #[] 0)] :: C :: G :: [(b8, .cells (zw x).toArray 168 (0, 0))] :: D :: F)) ?_
    rw [← hnv]
    refine QAt.seq <| Tr.seq <| Tr.region <| q9 (qA rfl) <| q9 (qA rfl) <| q9 (wF rfl) <| qF (wT rfl) ?_
    rintro t59 _ ⟨b59, rfl, rfl⟩
    refine q9 (qC rfl) <| qB <| QAt.seq <| Tr.seq <| Tr.region <| q9 (qA rfl) <| q9 (yn rfl Tryz.underlying160 rfl (fun _ _ => ⟨_, inferInstance⟩) (fun _ _ h => by cases h)) ?_
    refine q9 (qD rfl) <| q9 (QV rfl) <| qF (qn rfl (xt ([(b59, .cells [.pointer (some ⟨p, 0, none⟩), rv, .int .i64 0].toArray 173 (0, 0))]) ([(p, .cells (wz n ma md b53 u).toArray 90 (0, 0))]) ([(ma, oa1)]) ([(b8, .cells (zw x).toArray 168 (0, 0))]) (WE b59 p ma b8 5 8 8 n md b53 u rv oa1 _ ho1 (zw x) 168 (0, 0) x.d 0 0 0 hx.len (by omega) (by omega) (by simp) (fun i y hy => by rw [Nat.mul_one]; exact XH hy)))) ?_
    rintro t64 _ ⟨rfl, oa2, ho2, rfl⟩
    refine qB <| QAt.seq <| Tr.seq <| Tr.region <| q9 (qA rfl) <| q9 (yZ (b := 2) (off := 0) (c := [Value.int .i64 3, Value.int .i64 0].toArray) (e := e2) (fr := f2) (r := [.int .i64 3, .int .i64 0]) rfl (by rw [hG]; simp) rfl (by decide)) ?_
    refine q9 (qD rfl) <| q9 (qG rfl (YP hx.len).1) <| qF (qn rfl (xt ([(b59, .cells [.pointer (some ⟨p, 0, none⟩), rv, .int .i64 0].toArray 173 (0, 0))]) ([(p, .cells (wz n ma md b53 u).toArray 90 (0, 0))]) ([(ma, oa2)]) (D) (Yr b59 p ma n md b53 u rv oa2 _ ho2 D g hr (3, 0) x.sg l1 h1 h10 h11))) ?_
    rintro t69 _ ⟨rfl, oa3, ho3, rfl⟩
    refine qF (qV) ?_
    rintro t12 _ ⟨b12, rfl, rfl⟩
    refine qK (qW rfl rfl (by simp) (by simp [hlen1]) (x3 _)) ?_
    refine qB <| QAt.seq <| Tr.seq <| Tr.region <| q9 (qA rfl) <| q9 (wF rfl) <| q9 (QV rfl) <| qF (qn rfl (xt ([(b59, .cells [.pointer (some ⟨p, 0, none⟩), rv, .int .i64 0].toArray 173 (0, 0))]) ([(p, .cells (wz n ma md b53 u).toArray 90 (0, 0))]) ([(ma, oa3)]) ([(b12, .cells (iV l1).toArray 175 (0, 0))]) (WE b59 p ma b12 0 32 32 n md b53 u rv oa3 _ ho3 (iV l1) 175 (0, 0) l1 1 0 0 hlen1 (by omega) (by omega) (by simp) (fun i y hy => by rw [Nat.mul_one, Nat.zero_add]; exact K0 hy)))) ?_
    rintro t73 _ ⟨rfl, oa4, ho4, rfl⟩
    refine qB <| QAt.seq <| Tr.seq <| Tr.region <| q9 (qA rfl) <| q9 (yZ (b := 1) (off := 0) (c := [Value.int .i64 4, Value.int .i64 0].toArray) (e := e1) (fr := f1) (r := [.int .i64 4, .int .i64 0]) rfl (by rw [hG]; simp) rfl (by decide)) ?_
    refine q9 (qD rfl) <| q9 (qG rfl (YP hx.len).2) <| qF (qn rfl (xt ([(b59, .cells [.pointer (some ⟨p, 0, none⟩), rv, .int .i64 0].toArray 173 (0, 0))]) ([(p, .cells (wz n ma md b53 u).toArray 90 (0, 0))]) ([(ma, oa4)]) (D) (Yr b59 p ma n md b53 u rv oa4 _ ho4 D g hr (4, 0) x.db l2 h2 h20 h21))) ?_
    rintro t78 _ ⟨rfl, oa5, ho5, rfl⟩
    refine qF (qV) ?_
    rintro t13 _ ⟨b13, rfl, rfl⟩
    refine qK (qW rfl rfl (by simp) (by simp [hlen2]) (x3 _)) ?_
    refine qB <| QAt.seq <| Tr.seq <| Tr.seq <| Tr.region <| q9 (w7 rfl (by simp [hlen2])) ?_
    refine q9 (qA rfl) <| qB <| QAt.seq <| Tr.block <| wB (Γ := {pΓ : (Nat) × (Obj) // (fun (i : Nat) (oa : Obj) => i ≤ 32 ∧ MapF yU (Value.int .i64) (WA l2 ll i (Jl (4, 0) x.db (jI l1 (yV 1 0) (Jl (3, 0) x.sg (jI x.d (yV 0 0) (upd (fun _ => none) (2, 0) (some a))))))) oa) pΓ.1 pΓ.2}) (fun g => (fun (i : Nat) (oa : Obj) => [(10, .pointer (some ⟨p, 0, none⟩)), (11, .pointer (some ⟨b59, 0, none⟩)), (79, .agg (iV l2).toArray), (80, .int .i64 i)]) g.1.1 g.1.2) (fun g => (fun (i : Nat) (oa : Obj) => [(b59, .cells [.pointer (some ⟨p, 0, none⟩), rv, .int .i64 0].toArray 173 (0, 0))] :: [(p, .cells (wz n ma md b53 u).toArray 90 (0, 0))] :: [(ma, oa)] :: [(md, od)] :: [(b53, .map #[] 0)] :: C :: G :: D :: F) g.1.1 g.1.2) (fun g => (fun (i : Nat) (oa : Obj) => 32 - i) g.1.1 g.1.2) ⟨(0, oa5), by dsimp only; exact ⟨by omega, ho5⟩⟩ (qP _) ?_
    rintro ⟨⟨i, oa⟩, hloop⟩
    replace hloop : i ≤ 32 ∧ MapF yU (Value.int .i64) (WA l2 ll i (Jl (4, 0) x.db (jI l1 (yV 1 0) (Jl (3, 0) x.sg (jI x.d (yV 0 0) (upd (fun _ => none) (2, 0) (some a))))))) oa := hloop
    obtain ⟨hi, hf⟩ := hloop
    show Tr _ _ _ ([(10, .pointer (some ⟨p, 0, none⟩)), (11, .pointer (some ⟨b59, 0, none⟩)), (79, .agg (iV l2).toArray), (80, .int .i64 i)]) ([(b59, .cells [.pointer (some ⟨p, 0, none⟩), rv, .int .i64 0].toArray 173 (0, 0))] :: [(p, .cells (wz n ma md b53 u).toArray 90 (0, 0))] :: [(ma, oa)] :: [(md, od)] :: [(b53, .map #[] 0)] :: C :: G :: D :: F) _ _
    refine Tr.seq <| Tr.region <| q9 (qv rfl rfl) <| qB <| QAt.seq <| Tr.seq <| qI rfl (fun hc14 => ?_) (fun hc14 => ?_)
    ·
     refine Tr.skip <| QAt.seq <| Tr.seq <| Tr.block <| Tr.seq ?_
     obtain ⟨y, hy⟩ : ∃ y, l2[i]? = some y := ⟨_, List.getElem?_eq_getElem (by omega)⟩
     have hyd : l2.getD i 0 = y := by rw [List.getD_eq_getElem?_getD, hy]; rfl
     refine Tr.region <| q9 (qA rfl) <| q9 (KZ (j := i) rfl rfl rfl (by omega) (K0 hy)) <| q9 (qC rfl) <| q9 (qC rfl) <| qB <| QAt.seq <| Tr.seq <| Tr.region <| q9 (qA rfl) <| q9 (qA rfl) <| q9 (wF rfl) <| q9 (qA rfl) <| qF (qn rfl (xt ([(b59, .cells [.pointer (some ⟨p, 0, none⟩), rv, .int .i64 0].toArray 173 (0, 0))]) ([(p, .cells (wz n ma md b53 u).toArray 90 (0, 0))]) ([(ma, oa)]) (D) (Yr b59 p ma n md b53 u rv oa _ hf D g hr (5, (i : Int)) y (ll i) (h3 i) (fun e => h30 i (by rw [hyd]; exact e)) (fun e => by have := h31 i (by omega) (by rw [hyd]; exact e); rw [hyd] at this; exact this)))) ?_
     rintro t88 _ ⟨rfl, oa6, ho6, rfl⟩
     refine qF (qV) ?_
     rintro t16 _ ⟨b16, rfl, rfl⟩
     refine qK (qW rfl rfl (by simp) (by simp [(h3 i).len]) (x3 _)) ?_
     refine qB <| QAt.seq <| Tr.region <| q9 (qA rfl) <| q9 (qA rfl) <| q9 (wF rfl) <| q9 (QV rfl) <| qF (qn rfl (xt ([(b59, .cells [.pointer (some ⟨p, 0, none⟩), rv, .int .i64 0].toArray 173 (0, 0))]) ([(p, .cells (wz n ma md b53 u).toArray 90 (0, 0))]) ([(ma, oa6)]) ([(b16, .cells (iV (ll i)).toArray 175 (0, 0))]) (WE b59 p ma b16 0 32 32 n md b53 u rv oa6 _ ho6 (iV (ll i)) 175 (0, 0) (ll i) 2 i 0 (h3 i).len (by omega) (by omega) (by simp) (fun i y hy => by rw [Nat.mul_one, Nat.zero_add]; exact K0 hy)))) ?_
     rintro t93 _ ⟨rfl, oa7, ho7, rfl⟩
     refine qB <| QAt.block <| QAt.seq <| Tr.region <| q9 (qj rfl rfl (by omega)) <| q9 (qA rfl) <| qB <| qh ⟨(i + 1, oa7), ?_⟩ ?_ ?_
     · (try dsimp only); exact ⟨by omega, by rw [WA, hyd]; exact ho7⟩
     · (try dsimp only); omega
     · (try dsimp only); exact qP _
    ·
     refine Tr.exit <| qX <| qY <| qS <| QAt.seq <| Tr.seq <| Tr.seq <| Tr.region <| q9 (qA rfl) <| q9 (qJ rfl) <| q9 (qD rfl) <| q9 (qG rfl rfl) <| q9 (wZ rfl rfl) <| qB <| QAt.seq <| qI rfl (fun hc19 => ?_) (fun hc19 => ?_)
     · exact absurd rfl hc19
     ·
      refine Tr.skip <| QAt.seq <| Tr.seq ?_
      obtain rfl : i = 32 := by omega
      refine Tr.region <| q9 (qA rfl) <| q9 (qC rfl) <| q9 (qC rfl) <| qB <| z8 (qP ([(p, .cells (wz n ma md b53 u).toArray 90 (0, 0))] :: [(ma, oa)] :: [(md, od)] :: [(b53, .map #[] 0)] :: C :: D :: G :: F)) <| z8 (wH (L' := ((p, .cells (wz (Xe x a l1 l2 ll) ma md b53 u).toArray 90 (0, 0)) :: (ma, oa) :: (md, od) :: (b53, .map #[] 0) :: C) :: D :: G :: F) (by rw [hnv]; simp [wz, Xe])) ?_
      refine QAt.seq <| Tr.ret <| QM (.inl rfl) rfl (qd rfl) (qd rfl) ?_
      exact ⟨p, _, rfl, ⟨ma, md, b53, oa, od, _, u, C, rfl, hf, hM.d, kA _ _, hM.g⟩, rfl⟩
end Go.Proofs.YtjikpomndbkfgaaGreatDoor
namespace Go.Sx
open Go
theorem wU {P : Program} {N : Nat} {E : Env} {x y : Operand} {t e sz : TypeId} {b o1 len cap : Nat} {k : IntKind} {i : Int} {j off : Nat} [hs : zt P t e] [hz : TySize P e sz]
    (hx : opv E x = some (.slice (some ⟨b, o1, none⟩) len cap)) (hy : opv E y = some (.int k i)) (hi : i = (j : Int)) (hj : j < len) (ho : o1 + j * sz = off) : OpY P N E (.indexAddr t x y) (.pointer (some ⟨b, off, none⟩)) := fun o a w h1 h3 => by
  subst ho; subst hi
  rw [execOp, h1]
  simp [h3.eval hx, h3.eval hy, Instr.indexAt, asIntOf, qi hs.h, hj, hz.s, yP]
theorem kO {P : Program} {N : Nat} {w0 : World} {E : Env} {L L' : Res} {Q : Exit → Act → World → Prop} {ops : List Oper} {ls : List Bool} (hL : ∀ w, Own w0 L w → Own w0 L' w) (h : TrS P N w0 ops ls E L' Q) : TrS P N w0 ops ls E L Q :=
  ⟨fun a w ha hw => h.h a w ha (hL w hw)⟩
end Go.Sx
namespace Go.Proofs.YtjikpomndbkfgaaGreatDoor
open Go Go.Sx Go.Nd
variable {w0 : World} {L F : Res} {ba bl : Nat}
set_option maxRecDepth 10000
structure Blk where
  has : Bool
  at_ : Int
  fresh : Bool
  s : Sec
structure zk where
  at_ : Int
  stale : Bool
structure RS where
  num : Int
  ver : Int
  kind : Int
  size : Int
  time : Int
  all : Int → Blk
  leaves : Int → zk
  sg : zk
  db : zk
  self : zk
  gone : List Int
def Blk.zero : Blk := ⟨false, 0, false, Sec.zero⟩
def wc (b : Blk) : List Value := .bool b.has :: .int .i64 b.at_ :: .bool b.fresh :: wW b.s
theorem zK (b : Blk) : (wc b).length = 131 := by simp [wc]
def wb (p : zk) : List Value := [.int .i64 p.at_, .bool p.stale]
theorem zC (p : zk) : (wb p).length = 2 := rfl
theorem KC (b : Blk) : (wc b).all (·.oneCell') = true := by simp [wc, Value.oneCell', wW, u8s]
def x2 {β : Type} (n : Nat) (f : Int → β) : List β := (List.range n).map fun i : Nat => f i
theorem Q3 {β : Type} {n : Nat} {f : Int → β} {i : Nat} (h : i < n) : (x2 n f)[i]? = some (f i) := by simp [x2, h]
theorem tabL_len {β : Type} {n : Nat} {f : Int → β} : (x2 n f).length = n := by simp [x2]
theorem zP {β : Type} {n : Nat} {f : Int → β} {i : Nat} {x : β} : (x2 n f).set i x = x2 n (upd f (i : Int) x) := by
  apply List.ext_getElem?
  intro j
  rw [List.getElem?_set]
  by_cases hj : j < n
  · have e1 := Q3 (f := f) hj
    have e2 := Q3 (f := upd f (i : Int) x) hj
    rw [e1, e2]
    split
    · rename_i e; subst e; rw [wx, tabL_len, if_pos hj]
    · rename_i e; rw [wI _ _ (by omega)]
  · have h1 : ∀ g : Int → β, (x2 n g)[j]? = none := fun g => List.getElem?_eq_none (by simp [x2]; omega)
    rw [h1, h1]
    split <;> simp [x2]; omega
def we (f : Int → Blk) : List Blk := x2 1064 f
def qx (f : Int → zk) : List zk := x2 32 f
theorem zn {f : Int → Blk} {i : Nat} (h : i < 1064) : (we f)[i]? = some (f i) := Q3 h
theorem wn {f : Int → zk} {i : Nat} (h : i < 32) : (qx f)[i]? = some (f i) := Q3 h
def k6 (W : RS) (ba bl : Nat) (ug : Value) : List Value := [.int .u32 W.num, .int .u32 W.ver, .int .i64 W.kind, .int .i64 W.size, .int .u32 W.time, .slice (some ⟨ba, 0, none⟩) 1064 1064, .slice (some ⟨bl, 0, none⟩) 32 32, .int .i64 W.sg.at_, .bool W.sg.stale, .int .i64 W.db.at_, .bool W.db.stale, .int .i64 W.self.at_, .bool W.self.stale, ug]
def RefC (ba bl : Nat) (W : RS) (v : List Value) (C : qM) : Prop := ∃ ug Cg, v = k6 W ba bl ug ∧ SlC 3 1 ug W.gone.length (iV W.gone) Cg ∧
  C = (ba, .cells ((we W.all).flatMap wc ++ []).toArray 125 (0, 0)) :: (bl, .cells ((qx W.leaves).flatMap wb ++ []).toArray 38 (0, 0)) :: Cg
def JA (W : RS) (ba bl : Nat) (Cg : qM) (F : Res) : Res := [(ba, .cells ((we W.all).flatMap wc ++ []).toArray 125 (0, 0))] :: [(bl, .cells ((qx W.leaves).flatMap wb ++ []).toArray 38 (0, 0))] :: Cg :: F
section
variable {W : RS} {v : List Value} {C : qM} {f : FuncId}
theorem ref_read {args : List Value → Array Value} {Rv : Value → Prop} (hw : RefC ba bl W v C)
    (h : ∀ ug Cg, SlC 3 1 ug W.gone.length (iV W.gone) Cg → FnT Tryz.prog w0 f (args (k6 W ba bl ug)) (JA W ba bl Cg F) (fun v L' => Rv v ∧ L' = JA W ba bl Cg F)) : FnT Tryz.prog w0 f (args v) (C :: F) (fun v L' => Rv v ∧ L' = C :: F) := by
  obtain ⟨ug, Cg, rfl, hs, rfl⟩ := hw
  exact QN (h ug Cg hs) (by simp [JA])
theorem ref_lays {args : List Value → Array Value} {G : Value → qM → Prop} (hw : RefC ba bl W v C)
    (h : ∀ ug Cg, SlC 3 1 ug W.gone.length (iV W.gone) Cg → FnT Tryz.prog w0 f (args (k6 W ba bl ug)) (JA W ba bl Cg F) (fun v L' => ∃ C', G v C' ∧ L' = C' :: JA W ba bl Cg F)) : FnT Tryz.prog w0 f (args v) (C :: F) (fun v L' => ∃ C', G v C' ∧ L' = C' :: C :: F) := by
  obtain ⟨ug, Cg, rfl, hs, rfl⟩ := hw
  exact ((h ug Cg hs).pre (wH (by simp [JA]))).post fun v L' ⟨C', h1, h2⟩ => ⟨_, ⟨C', h1, rfl⟩, by subst h2; exact wH (by simp [JA])⟩
end
theorem Zk {α : Type} (enc : α → List Value) (sz n : Nat) (x : α) (h : (enc x).length = sz) (hs : 0 < sz) :
    ((List.range (n * sz)).map fun i => ((enc x).toArray)[i % sz]!) = (List.replicate n x).flatMap enc := by
  induction n with
  | zero => simp
  | succ n ih =>
    rw [Nat.succ_mul, List.range_add, List.map_append, ih, List.replicate_succ', List.flatMap_append]
    congr 1
    rw [List.map_map]
    simp only [List.flatMap_cons, List.flatMap_nil, List.append_nil]
    apply List.ext_getElem
    · simp [h]
    · intro i h1 h2
      have hi : i < sz := by simpa using h1
      simp only [List.getElem_map, List.getElem_range, Function.comp]
      rw [show (n * sz + i) % sz = i from by rw [Nat.mul_comm, Nat.mul_add_mod, Nat.mod_eq_of_lt hi]]
      simp [h, hi]
def XI (W : RS) : List Int := ((List.range 1064).map (fun i : Nat => (i : Int))).filter (fun i => (W.all i).has)
theorem filter_take {xs : List Int} {pr : Int → Bool} {i : Nat} {q : Int} (hq : xs[i]? = some q) : (xs.take (i + 1)).filter pr = (xs.take i).filter pr ++ (if pr q then [q] else []) := by
  rw [List.take_add_one, hq, List.filter_append]
  simp only [Option.toList_some, List.filter_cons, List.filter_nil]
def zR (n : Nat) : List Int := (List.range n).map (fun i : Nat => (i : Int))
theorem ku {n i : Nat} (h : i < n) : (zR n)[i]? = some (i : Int) := by simp [zR, h]
theorem jj (n : Nat) : (zR n).length = n := by simp [zR]
instance (priority := high) : TyZero Tryz.prog 125 (.agg (wc Blk.zero).toArray) := .of (by kernel_rfl)
theorem rep_allL : we (fun _ => Blk.zero) = List.replicate 1064 Blk.zero := by
  unfold we x2
  rw [List.map_const']; simp
theorem rep_leafL : qx (fun _ => ⟨0, false⟩) = List.replicate 32 ⟨0, false⟩ := by
  unfold qx x2
  rw [List.map_const']; simp
def W5 (num ver kind : Int) : RS := ⟨num, ver, kind, 0, 0, fun _ => Blk.zero, fun _ => ⟨0, false⟩, ⟨0, false⟩, ⟨0, false⟩, ⟨0, true⟩, []⟩
theorem rnew_ok (num ver kind : Int) : FnT Tryz.prog w0 26 #[.int .u32 num, .int .u32 ver, .int .i64 kind] F (fun v L' => ∃ ba bl l C, v = .agg l.toArray ∧ RefC ba bl (W5 num ver kind) l C ∧ L' = C :: F) := by
  refine FnT.enter (E0 := [(0, _), (1, _), (2, _)]) (N := 14) Tryz.func26 rfl rfl rfl rfl ?_
  refine Tr.seq <| Tr.region <| qF (qV) ?_
  rintro t6 _ ⟨b6, rfl, rfl⟩
  refine qB <| QAt.seq <| Tr.seq <| Tr.drawn qm <| qr [(7, .pure _), (8, .pure _), (9, .pure _), (10, .act ([]) (fun v C => ∃ b, v = .slice (some ⟨b, 0, none⟩) 1064 1064 ∧ C = [(b, .cells ((List.replicate 1064 Blk.zero).flatMap wc ++ []).toArray 125 (0, 0))])), (11, .act ([]) (fun v C => ∃ b, v = .slice (some ⟨b, 0, none⟩) 32 32 ∧ C = [(b, .cells ((List.replicate 32 (⟨0, false⟩ : zk)).flatMap wb ++ []).toArray 38 (0, 0))])), (12, .pure _)] (by kernel_rfl) rfl rfl rfl (Q8 [[], []] rfl) (ParH.pure rfl (fun X => qA rfl) <| ParH.pure rfl (fun X => qA rfl) <| ParH.pure rfl (fun X => qA rfl) <| ParH.act rfl (fun X => OpT.mono (OpT.weaken (xE (n := 1064) (r := (List.replicate 1064 Blk.zero).flatMap wc ++ []) rfl rfl (by decide) (by decide) (by rw [List.append_nil]; exact Zk wc 131 1064 Blk.zero (zK _) (by omega))) (fun _ _ h => h) Q7) (fun v L h => by obtain ⟨b, h1, h2⟩ := h; exact ⟨_, ⟨b, h1, rfl⟩, h2⟩)) <| ParH.act rfl (fun X => OpT.mono (OpT.weaken (xE (n := 32) (r := (List.replicate 32 (⟨0, false⟩ : zk)).flatMap wb ++ []) rfl rfl (by decide) (by decide) (by rw [List.append_nil]; exact Zk wb 2 32 ⟨0, false⟩ rfl (by omega))) (fun _ _ h => h) Q7) (fun v L h => by obtain ⟨b, h1, h2⟩ := h; exact ⟨_, ⟨b, h1, rfl⟩, h2⟩)) <| ParH.pure rfl (fun X => wF rfl) <| ParH.nil rfl) ?_
  rintro t10 C1 ⟨ba, rfl, rfl⟩
  rintro t11 C2 ⟨bl, rfl, rfl⟩
  dsimp only [zG, List.drop, List.length]
  refine qq (by kernel_rfl) (wF rfl) ?_
  refine k0 (by kernel_rfl) (wJ rfl rfl rfl rfl) ?_
  refine qt ?_
  rw [← rep_allL, ← rep_leafL]
  refine z8 (L' := [(b6, .cells [.int .u32 num, .int .u32 ver, .int .i64 kind, .int .i64 0, .int .u32 0, .slice (some ⟨ba, 0, none⟩) 1064 1064, .slice (some ⟨bl, 0, none⟩) 32 32, .int .i64 0, .bool false, .int .i64 0, .bool false, .int .i64 0, .bool true, .slice none 0 0].toArray 41 (0, 0))] :: ((ba, .cells ((we (fun _ => Blk.zero)).flatMap wc ++ []).toArray 125 (0, 0)) :: (bl, .cells ((qx (fun _ => ⟨0, false⟩)).flatMap wb ++ []).toArray 38 (0, 0)) :: []) :: F) (yI (by intro f; simp only [List.flatten_cons, List.flatten_nil, List.append_nil, List.countP_append, List.countP_cons, List.countP_nil]; omega)) ?_
  refine QAt.seq <| Tr.ret <| qs (((ba, .cells ((we (fun _ => Blk.zero)).flatMap wc ++ []).toArray 125 (0, 0)) :: (bl, .cells ((qx (fun _ => ⟨0, false⟩)).flatMap wb ++ []).toArray 38 (0, 0)) :: []) :: F) (.inl rfl) rfl (zB rfl) ?_
  exact ⟨ba, bl, _, _, rfl, ⟨.slice none 0 0, [], rfl, zu _ _, rfl⟩, rfl⟩
def Ws (W : RS) (lv lf : Int) (i : Int) : Bool := (W.all i).has && (decide ((w8 i).1 = lv) && (decide ((w8 i).2.1 = lf) || decide (lf < 0)))
def zg (W : RS) (lv lf : Int) : Bool := (zR 1064).any (Ws W lv lf)
theorem kr (W : RS) (v : List Value) (C : qM) (hw : RefC ba bl W v C) (lv lf : Int) :
    FnT Tryz.prog w0 66 #[.agg v.toArray, .int .i64 lv, .int .i64 lf] (C :: F) (fun v L' => v = .bool (zg W lv lf) ∧ L' = C :: F) := by
  refine ref_read (args := fun v => #[.agg v.toArray, .int .i64 lv, .int .i64 lf]) (Rv := fun v => v = .bool (zg W lv lf)) hw ?_
  intro ug Cg hs
  unfold JA k6
  refine FnT.enter (E0 := [(0, _), (1, _), (2, _)]) (N := 41) Tryz.func66 rfl rfl rfl rfl ?_
  refine Tr.seq <| Tr.region <| qF (wT rfl) ?_
  rintro t3 _ ⟨b3, rfl, rfl⟩
  refine q9 (qC rfl) <| qB <| QAt.seq <| Tr.seq <| Tr.seq <| Tr.region <| q9 (qC rfl) <| qB <| QAt.seq <| Tr.block <| wB (Γ := {pΓ : (Nat) // (fun (i : Nat) => i ≤ 1064 ∧ ((zR 1064).take i).any (Ws W lv lf) = false) pΓ}) (fun g => (fun (i : Nat) => [(1, .int .i64 lv), (2, .int .i64 lf), (3, .pointer (some ⟨b3, 0, none⟩)), (7, .int .i64 i)]) g.1) (fun g => (fun (i : Nat) => [(b3, .cells [.int .u32 W.num, .int .u32 W.ver, .int .i64 W.kind, .int .i64 W.size, .int .u32 W.time, .slice (some ⟨ba, 0, none⟩) 1064 1064, .slice (some ⟨bl, 0, none⟩) 32 32, .int .i64 W.sg.at_, .bool W.sg.stale, .int .i64 W.db.at_, .bool W.db.stale, .int .i64 W.self.at_, .bool W.self.stale, ug].toArray 41 (0, 0))] :: [(ba, .cells ((we W.all).flatMap wc ++ []).toArray 125 (0, 0))] :: [(bl, .cells ((qx W.leaves).flatMap wb ++ []).toArray 38 (0, 0))] :: Cg :: F) g.1) (fun g => (fun (i : Nat) => 1064 - i) g.1) ⟨0, by dsimp only; exact ⟨by omega, rfl⟩⟩ (qP _) ?_
  rintro ⟨i, hloop⟩
  replace hloop : i ≤ 1064 ∧ ((zR 1064).take i).any (Ws W lv lf) = false := hloop
  obtain ⟨hi, hn⟩ := hloop
  show Tr _ _ _ ([(1, .int .i64 lv), (2, .int .i64 lf), (3, .pointer (some ⟨b3, 0, none⟩)), (7, .int .i64 i)]) ([(b3, .cells [.int .u32 W.num, .int .u32 W.ver, .int .i64 W.kind, .int .i64 W.size, .int .u32 W.time, .slice (some ⟨ba, 0, none⟩) 1064 1064, .slice (some ⟨bl, 0, none⟩) 32 32, .int .i64 W.sg.at_, .bool W.sg.stale, .int .i64 W.db.at_, .bool W.db.stale, .int .i64 W.self.at_, .bool W.self.stale, ug].toArray 41 (0, 0))] :: [(ba, .cells ((we W.all).flatMap wc ++ []).toArray 125 (0, 0))] :: [(bl, .cells ((qx W.leaves).flatMap wb ++ []).toArray 38 (0, 0))] :: Cg :: F) _ _
  refine Tr.seq <| Tr.seq <| Tr.region <| q9 (qA rfl) <| q9 (qv rfl rfl) <| qB <| QAt.seq <| qI rfl (fun hc2 => ?_) (fun hc2 => ?_)
  ·
   refine Tr.skip <| QAt.seq <| Tr.seq <| Tr.block <| Tr.seq <| Tr.region <| q9 (qA rfl) <| q9 (qw rfl (Yg i (by omega))) <| q9 (qA rfl) <| q9 (qR rfl rfl) <| q9 (qR rfl rfl) <| qF (qV) ?_
   rintro t8 _ ⟨b8, rfl, rfl⟩
   refine qK (wJ (vs := [.int .i64 (w8 i).1, .int .i64 (w8 i).2.1, .int .i64 (w8 i).2.2]) rfl rfl rfl rfl) <| q9 (qC rfl) <| qB <| QAt.seq <| zA (Γ := {pΓ : (Bool) // (fun (b : Bool) => b = Ws W lv lf i) pΓ}) (fun g => (fun (b : Bool) => [(1, .int .i64 lv), (2, .int .i64 lf), (3, .pointer (some ⟨b3, 0, none⟩)), (7, .int .i64 i), (40, .bool b)]) g.1) (fun g => (fun (b : Bool) => [(b3, .cells [.int .u32 W.num, .int .u32 W.ver, .int .i64 W.kind, .int .i64 W.size, .int .u32 W.time, .slice (some ⟨ba, 0, none⟩) 1064 1064, .slice (some ⟨bl, 0, none⟩) 32 32, .int .i64 W.sg.at_, .bool W.sg.stale, .int .i64 W.db.at_, .bool W.db.stale, .int .i64 W.self.at_, .bool W.self.stale, ug].toArray 41 (0, 0))] :: [(ba, .cells ((we W.all).flatMap wc ++ []).toArray 125 (0, 0))] :: [(bl, .cells ((qx W.leaves).flatMap wb ++ []).toArray 38 (0, 0))] :: Cg :: F) g.1) ?_ ?_
   ·
    refine Tr.region <| q9 (qD rfl) <| q9 (qG rfl rfl) <| q9 (qA rfl) <| q9 (qf (j := i) (off := i * 131) rfl rfl rfl (by omega) (by simp)) ?_
    refine q9 (qk rfl) <| q9 (zF (j := i) (k := 0) zK rfl (zn (by omega)) rfl rfl) <| q9 (qA rfl) <| TrOs.split (s := 25) rfl (fun hg5_6 => ?_) (fun hg5_6 => ?_)
    ·
     refine qE rfl rfl (qD rfl) <| qE rfl rfl (qG rfl rfl) <| qE rfl rfl (qA rfl) <| qE rfl rfl (wR rfl rfl) <| q9 (qT rfl rfl) <| q9 (qA rfl) <| qN (s := 31) rfl (fun hg5_12 => ?_) (fun hg5_12 => ?_)
     ·
      refine qE rfl rfl (qD rfl) <| qE rfl rfl (qG rfl rfl) <| qE rfl rfl (qA rfl) <| qE rfl rfl (wR rfl rfl) <| qE rfl rfl (qA rfl) <| qN (s := 36) rfl (fun hg5_17 => ?_) (fun hg5_17 => ?_)
      ·
       refine qH rfl rfl rfl <| qH rfl rfl rfl <| qE rfl rfl (qT rfl rfl) <| q9 (qT rfl rfl) <| qB <| qO ⟨_, ?_⟩ ?_
       · (try dsimp only); unfold Ws; simp only [*, Bool.true_and, Bool.false_and, decide_true, decide_false, Bool.true_or, Bool.false_or] <;> rfl
       · (try dsimp only); exact qP _
      ·
       refine qE rfl rfl (qA rfl) <| qE rfl rfl (qv rfl rfl) <| qE rfl rfl (qL rfl rfl) <| q9 (qT rfl rfl) <| qB <| qO ⟨_, ?_⟩ ?_
       · (try dsimp only); unfold Ws; simp only [*, Bool.true_and, Bool.false_and, decide_true, decide_false, Bool.true_or, Bool.false_or] <;> rfl
       · (try dsimp only); exact qP _
     ·
      refine qH rfl rfl rfl <| qH rfl rfl rfl <| qH rfl rfl rfl <| qH rfl rfl rfl <| qH rfl rfl rfl <| kP rfl rfl <| kP rfl rfl <| qH rfl rfl rfl <| q9 (qL rfl rfl) <| qB <| qO ⟨_, ?_⟩ ?_
      · (try dsimp only); unfold Ws; simp only [*, Bool.true_and, Bool.false_and, decide_true, decide_false, Bool.true_or, Bool.false_or] <;> rfl
      · (try dsimp only); exact qP _
    ·
     refine qH rfl rfl rfl <| qH rfl rfl rfl <| qH rfl rfl rfl <| qH rfl rfl rfl <| q9 (qL rfl rfl) <| q9 (qA rfl) <| qH rfl rfl rfl <| qH rfl rfl rfl <| qH rfl rfl rfl <| qH rfl rfl rfl <| qH rfl rfl rfl <| kP rfl rfl <| kP rfl rfl <| qH rfl rfl rfl <| q9 (qL rfl rfl) <| qB <| qO ⟨_, ?_⟩ ?_
     · (try dsimp only); unfold Ws; simp only [*, Bool.true_and, Bool.false_and, decide_true, decide_false, Bool.true_or, Bool.false_or] <;> rfl
     · (try dsimp only); exact qP _
   rintro ⟨b, hcut⟩
   replace hcut : b = Ws W lv lf i := hcut
   have hb := hcut
   show Tr _ _ _ ([(1, .int .i64 lv), (2, .int .i64 lf), (3, .pointer (some ⟨b3, 0, none⟩)), (7, .int .i64 i), (40, .bool b)]) ([(b3, .cells [.int .u32 W.num, .int .u32 W.ver, .int .i64 W.kind, .int .i64 W.size, .int .u32 W.time, .slice (some ⟨ba, 0, none⟩) 1064 1064, .slice (some ⟨bl, 0, none⟩) 32 32, .int .i64 W.sg.at_, .bool W.sg.stale, .int .i64 W.db.at_, .bool W.db.stale, .int .i64 W.self.at_, .bool W.self.stale, ug].toArray 41 (0, 0))] :: [(ba, .cells ((we W.all).flatMap wc ++ []).toArray 125 (0, 0))] :: [(bl, .cells ((qx W.leaves).flatMap wb ++ []).toArray 38 (0, 0))] :: Cg :: F) _ _
   refine Tr.cond rfl (fun hc4 => ?_) (fun hc4 => ?_)
   ·
    refine Tr.seq <| Tr.region <| q9 (qC rfl) <| qB <| QAt.seq <| Tr.ret <| qu <| qe <| yb <| qu <| qe <| qs ([(ba, .cells ((we W.all).flatMap wc ++ []).toArray 125 (0, 0))] :: [(bl, .cells ((qx W.leaves).flatMap wb ++ []).toArray 38 (0, 0))] :: Cg :: F) (.inl rfl) rfl (qd rfl) ?_
    exact ⟨by unfold zg; rw [List.any_eq_true.2 ⟨(i : Int), List.mem_of_getElem? (ku (by omega)), by rw [← hb]; exact hc4⟩], rfl⟩
   ·
    refine Tr.skip <| QAt.block <| QAt.seq <| Tr.region <| q9 (qA rfl) <| q9 (qj rfl rfl (by omega)) <| q9 (qC rfl) <| qB <| qh ⟨i + 1, ?_⟩ ?_ ?_
    ·
     try dsimp only
     refine ⟨by omega, ?_⟩
     rw [List.take_add_one, ku (by omega), List.any_append, hn]
     simp [← hb, hc4]
    · (try dsimp only); omega
    · (try dsimp only); exact qP _
  ·
   refine Tr.exit <| qX <| qY <| qS <| QAt.seq <| Tr.seq <| Tr.region <| q9 (qC rfl) <| qB <| QAt.seq <| Tr.ret <| qs ([(ba, .cells ((we W.all).flatMap wc ++ []).toArray 125 (0, 0))] :: [(bl, .cells ((qx W.leaves).flatMap wb ++ []).toArray 38 (0, 0))] :: Cg :: F) (.inl rfl) rfl (qd rfl) ?_
   rw [List.take_of_length_le (by rw [jj]; omega)] at hn
   exact ⟨by unfold zg; rw [hn], rfl⟩
def K9 (W : RS) (i : Int) : Int := (W.all (i / 128)).s.l.getD (i % 128).toNat 0
def Qo (W : RS) (a m : Int) : List Int := (List.range (min (W.size - a) m).toNat).map fun j : Nat => K9 W (a + j)
theorem blk_byte (b : Blk) {k : Nat} (h : k < 128) : wG (wc b) (3 + k) = some (.int .u8 (b.s.l.getD k 0)) := by
  rw [wi, show 3 + k = k + 1 + 1 + 1 from by omega]
  show (wW b.s)[k]? = _
  have hl := b.s.len
  simp [wW, u8s, List.getD_eq_getElem?_getD, List.getElem?_eq_getElem (show k < b.s.l.length by omega)]
theorem rread_ok (W : RS) (v : List Value) (C : qM) (hw : RefC ba bl W v C) (a m : Int) (ha : -9223372036854775808 ≤ a ∧ a ≤ 9223372036854775807) (hsz : W.size ≤ 136192) :
    FnT Tryz.prog w0 29 #[.agg v.toArray, .int .i64 a, .int .i64 m] (C :: F) (fun v L' => ∃ C', (if a < 0 ∨ m < 0 then v = .tuple #[.slice none 0 0, .int .i64 1] ∧ C' = [] else ∃ u, v = .tuple #[u, .int .i64 0] ∧ SlC 5 1 u (Qo W a m).length (u8s (Qo W a m)) C') ∧ L' = C' :: C :: F) := by
  refine ref_lays (args := fun v => #[.agg v.toArray, .int .i64 a, .int .i64 m]) (G := fun v C' => (if a < 0 ∨ m < 0 then v = .tuple #[.slice none 0 0, .int .i64 1] ∧ C' = [] else ∃ u, v = .tuple #[u, .int .i64 0] ∧ SlC 5 1 u (Qo W a m).length (u8s (Qo W a m)) C')) hw ?_
  intro ug Cg hs
  unfold JA k6
  refine FnT.enter (E0 := [(0, _), (1, _), (2, _)]) (N := 43) Tryz.func29 rfl rfl rfl rfl ?_
  refine Tr.seq <| Tr.region <| qF (wT rfl) ?_
  rintro t3 _ ⟨b3, rfl, rfl⟩
  refine q9 (qC rfl) <| q9 (qC rfl) <| qB <| QAt.seq <| Tr.seq <| zA (Γ := {pΓ : (Bool) // (fun (b : Bool) => b = decide (a < 0 ∨ m < 0)) pΓ}) (fun g => (fun (b : Bool) => [(1, .int .i64 a), (2, .int .i64 m), (3, .pointer (some ⟨b3, 0, none⟩)), (15, .bool b)]) g.1) (fun g => (fun (b : Bool) => [(b3, .cells [.int .u32 W.num, .int .u32 W.ver, .int .i64 W.kind, .int .i64 W.size, .int .u32 W.time, .slice (some ⟨ba, 0, none⟩) 1064 1064, .slice (some ⟨bl, 0, none⟩) 32 32, .int .i64 W.sg.at_, .bool W.sg.stale, .int .i64 W.db.at_, .bool W.db.stale, .int .i64 W.self.at_, .bool W.self.stale, ug].toArray 41 (0, 0))] :: [(ba, .cells ((we W.all).flatMap wc ++ []).toArray 125 (0, 0))] :: [(bl, .cells ((qx W.leaves).flatMap wb ++ []).toArray 38 (0, 0))] :: Cg :: F) g.1) ?_ ?_
  ·
   refine Tr.region <| q9 (qA rfl) <| q9 (qv rfl rfl) <| q9 (qA rfl) <| qN (s := 12) rfl (fun hg1_2 => ?_) (fun hg1_2 => ?_)
   ·
    refine qH rfl rfl rfl <| qH rfl rfl rfl <| q9 (qT rfl rfl) <| qB <| qO ⟨_, ?_⟩ ?_
    · (try dsimp only); simp only [*, true_or, false_or, decide_true] <;> rfl
    · (try dsimp only); exact qP _
   ·
    refine qE rfl rfl (qA rfl) <| qE rfl rfl (qv rfl rfl) <| q9 (qL rfl rfl) <| qB <| qO ⟨_, ?_⟩ ?_
    · (try dsimp only); simp only [*, true_or, false_or, decide_true] <;> rfl
    · (try dsimp only); exact qP _
  rintro ⟨b, hcut⟩
  replace hcut : b = decide (a < 0 ∨ m < 0) := hcut
  have hb := hcut
  show Tr _ _ _ ([(1, .int .i64 a), (2, .int .i64 m), (3, .pointer (some ⟨b3, 0, none⟩)), (15, .bool b)]) ([(b3, .cells [.int .u32 W.num, .int .u32 W.ver, .int .i64 W.kind, .int .i64 W.size, .int .u32 W.time, .slice (some ⟨ba, 0, none⟩) 1064 1064, .slice (some ⟨bl, 0, none⟩) 32 32, .int .i64 W.sg.at_, .bool W.sg.stale, .int .i64 W.db.at_, .bool W.db.stale, .int .i64 W.self.at_, .bool W.self.stale, ug].toArray 41 (0, 0))] :: [(ba, .cells ((we W.all).flatMap wc ++ []).toArray 125 (0, 0))] :: [(bl, .cells ((qx W.leaves).flatMap wb ++ []).toArray 38 (0, 0))] :: Cg :: F) _ _
  refine Tr.cond rfl (fun hc0 => ?_) (fun hc0 => ?_)
  ·
   refine Tr.seq <| Tr.region <| q9 (qC rfl) <| q9 (qC rfl) <| qB <| QAt.seq <| Tr.ret <| qe <| wC ([] :: [(ba, .cells ((we W.all).flatMap wc ++ []).toArray 125 (0, 0))] :: [(bl, .cells ((qx W.leaves).flatMap wb ++ []).toArray 38 (0, 0))] :: Cg :: F) (.inl rfl) rfl (qd rfl) (qd rfl) ?_
   exact ⟨[], by rw [if_pos (of_decide_eq_true (hb ▸ hc0))]; exact ⟨rfl, rfl⟩, rfl⟩
  ·
   refine Tr.skip <| QAt.seq <| Tr.seq ?_
   have hnn : ¬ (a < 0 ∨ m < 0) := of_decide_eq_false (hb ▸ hc0)
   refine Tr.region <| q9 (qC rfl) <| qB <| QAt.seq <| Tr.seq <| Tr.seq <| Tr.region <| q9 (qA rfl) <| q9 (qC rfl) <| qB <| QAt.seq <| Tr.block <| wB (Γ := {pΓ : (Nat) × (Int) × (Value) × (qM) // (fun (i : Nat) (z : Int) (uo : Value) (Co : qM) => z = a + i ∧ (i = 0 ∨ (i : Int) ≤ W.size - a ∧ (i : Int) ≤ m) ∧ SlC 5 1 uo i (u8s ((List.range i).map fun j : Nat => K9 W (a + j))) Co) pΓ.1 pΓ.2.1 pΓ.2.2.1 pΓ.2.2.2}) (fun g => (fun (i : Nat) (z : Int) (uo : Value) (Co : qM) => [(2, .int .i64 m), (3, .pointer (some ⟨b3, 0, none⟩)), (8, uo), (9, .int .i64 z)]) g.1.1 g.1.2.1 g.1.2.2.1 g.1.2.2.2) (fun g => (fun (i : Nat) (z : Int) (uo : Value) (Co : qM) => Co :: [(b3, .cells [.int .u32 W.num, .int .u32 W.ver, .int .i64 W.kind, .int .i64 W.size, .int .u32 W.time, .slice (some ⟨ba, 0, none⟩) 1064 1064, .slice (some ⟨bl, 0, none⟩) 32 32, .int .i64 W.sg.at_, .bool W.sg.stale, .int .i64 W.db.at_, .bool W.db.stale, .int .i64 W.self.at_, .bool W.self.stale, ug].toArray 41 (0, 0))] :: [(ba, .cells ((we W.all).flatMap wc ++ []).toArray 125 (0, 0))] :: [(bl, .cells ((qx W.leaves).flatMap wb ++ []).toArray 38 (0, 0))] :: Cg :: F) g.1.1 g.1.2.1 g.1.2.2.1 g.1.2.2.2) (fun g => (fun (i : Nat) (z : Int) (uo : Value) (Co : qM) => (W.size - a).toNat - i) g.1.1 g.1.2.1 g.1.2.2.1 g.1.2.2.2) ⟨(0, a, .slice none 0 0, []), by dsimp only; exact ⟨by simp, .inl rfl, zu _ _⟩⟩ (qP _) ?_
   rintro ⟨⟨i, z, uo, Co⟩, hloop⟩
   replace hloop : z = a + i ∧ (i = 0 ∨ (i : Int) ≤ W.size - a ∧ (i : Int) ≤ m) ∧ SlC 5 1 uo i (u8s ((List.range i).map fun j : Nat => K9 W (a + j))) Co := hloop
   obtain ⟨hz, hi, hsl⟩ := hloop
   show Tr _ _ _ ([(2, .int .i64 m), (3, .pointer (some ⟨b3, 0, none⟩)), (8, uo), (9, .int .i64 z)]) (Co :: [(b3, .cells [.int .u32 W.num, .int .u32 W.ver, .int .i64 W.kind, .int .i64 W.size, .int .u32 W.time, .slice (some ⟨ba, 0, none⟩) 1064 1064, .slice (some ⟨bl, 0, none⟩) 32 32, .int .i64 W.sg.at_, .bool W.sg.stale, .int .i64 W.db.at_, .bool W.db.stale, .int .i64 W.self.at_, .bool W.self.stale, ug].toArray 41 (0, 0))] :: [(ba, .cells ((we W.all).flatMap wc ++ []).toArray 125 (0, 0))] :: [(bl, .cells ((qx W.leaves).flatMap wb ++ []).toArray 38 (0, 0))] :: Cg :: F) _ _
   refine Tr.seq <| Tr.seq ?_
   obtain ⟨pu, cu, hu⟩ := hsl.slice
   refine Tr.region <| q9 (qA rfl) <| q9 (qD rfl) <| q9 (qG rfl rfl) <| q9 (qv rfl rfl) <| q9 (qA rfl) <| qN (s := 21) rfl (fun hg5_4 => ?_) (fun hg5_4 => ?_)
   ·
    refine qE rfl rfl (qA rfl) <| qE rfl rfl (qg (by rw [← hu]; rfl)) ?_
    refine qE rfl rfl (qA rfl) <| qE rfl rfl (qv rfl rfl) <| q9 (qT rfl rfl) <| qB <| QAt.seq <| qI rfl (fun hc5 => ?_) (fun hc5 => ?_)
    ·
     refine Tr.skip <| QAt.seq <| Tr.seq <| Tr.block ?_
     obtain ⟨q, hq⟩ : ∃ q : Nat, z / 128 = q := ⟨(z / 128).toNat, by omega⟩
     obtain ⟨r, hr⟩ : ∃ r : Nat, z % 128 = r := ⟨(z % 128).toNat, by omega⟩
     refine Tr.region <| q9 (qA rfl) <| q9 (qD rfl) <| q9 (qG rfl rfl) <| q9 (qA rfl) <| q9 (km rfl rfl (by omega)) <| q9 (qA rfl) <| q9 (jV rfl rfl (by omega) (by omega)) <| q9 (qf (j := q) (off := q * 131) rfl rfl (by omega) (by omega) (by simp)) ?_
     refine q9 (qk rfl) <| q9 (wO (j := r) (off := q * 131 + 3 + r * 1) rfl rfl (by omega) (by omega) (by simp)) ?_
     refine q9 (zF (j := q) (k := 3 + r) (v := .int .u8 (K9 W z)) zK rfl (zn (by omega)) (by omega) (by unfold K9; rw [hq, hr, Int.toNat_natCast]; exact blk_byte _ (by omega)) (by rw [Nat.blt_eq]; omega)) ?_
     refine qF (w5 rfl rfl rfl) ?_
     rintro t40 _ ⟨b40, rfl, rfl⟩
     refine qF (wP (m := 1) (sz := 1) rfl rfl hsl (wQ (ys := u8s [K9 W z]) inferInstance rfl rfl) rfl Tryz.underlying23 rfl rfl (by omega)) ?_
     rintro t41 _ ⟨C', hs', rfl⟩
     refine q9 (qC rfl) <| qB <| QAt.block <| QAt.seq <| Tr.region <| q9 (qA rfl) <| q9 (qj rfl rfl (by omega)) <| q9 (qC rfl) <| qB <| qh ⟨(i + 1, _, t41, C'), ?_⟩ ?_ ?_
     · (try dsimp only); exact ⟨by omega, .inr (by omega), by rw [List.range_succ, List.map_append, yH]; simp only [List.map_cons, List.map_nil, ← hz]; exact hs'⟩
     · (try dsimp only); omega
     · (try dsimp only); exact qP _
    ·
     refine Tr.exit <| qX <| qY <| qS <| QAt.seq <| Tr.seq <| Tr.region <| q9 (qA rfl) <| q9 (qC rfl) <| q9 (qC rfl) <| qB <| QAt.seq <| Tr.ret <| wC (Co :: [(ba, .cells ((we W.all).flatMap wc ++ []).toArray 125 (0, 0))] :: [(bl, .cells ((qx W.leaves).flatMap wb ++ []).toArray 38 (0, 0))] :: Cg :: F) (.inl rfl) rfl (qd rfl) (qd rfl) ?_
     have hil : i = (min (W.size - a) m).toNat := by omega
     exact ⟨Co, by rw [if_neg hnn]; exact ⟨uo, rfl, by unfold Qo; rw [← hil]; simpa using hsl⟩, rfl⟩
   ·
    refine qH rfl rfl rfl <| qH rfl rfl rfl <| qH rfl rfl rfl <| qH rfl rfl rfl <| q9 (qL rfl rfl) <| qB <| QAt.seq <| wD rfl <| Tr.exit <| qX <| qY <| qS <| QAt.seq <| Tr.seq <| Tr.region <| q9 (qA rfl) <| q9 (qC rfl) <| q9 (qC rfl) <| qB <| QAt.seq <| Tr.ret <| wC (Co :: [(ba, .cells ((we W.all).flatMap wc ++ []).toArray 125 (0, 0))] :: [(bl, .cells ((qx W.leaves).flatMap wb ++ []).toArray 38 (0, 0))] :: Cg :: F) (.inl rfl) rfl (qd rfl) (qd rfl) ?_
    have hil : i = (min (W.size - a) m).toNat := by omega
    exact ⟨Co, by rw [if_neg hnn]; exact ⟨uo, rfl, by unfold Qo; rw [← hil]; simpa using hsl⟩, rfl⟩
def kQ : List (Int × Int × Int) → List Int → (Int → Blk) → (Int → Blk)
  | [], _, f => f
  | q :: l, bs, f => kQ l (bs.drop (q.2.2 - q.2.1).toNat) (upd f q.1 ⟨true, (f q.1).at_, true, ze (f q.1).s q.2.1.toNat (bs.take (q.2.2 - q.2.1).toNat)⟩)
def yM (W : RS) (a : Int) (bs : List Int) : Int × RS :=
  if kE a bs.length ≠ 0 ∨ bs.length = 0 then (kE a bs.length, W) else (0, { W with all := kQ (kN a bs.length) bs W.all, size := max W.size (a + bs.length) })
theorem mem_flat_tail {c : qM} {L : Res} {x : XO} (h : x ∈ L.flatten) : x ∈ (c :: L).flatten := by simp only [List.flatten_cons]; exact List.mem_append_right _ h
theorem Jk (s : Sec) {k : Nat} (h : k ≤ 128) : ze s k [] = s := by
  have hb : IsB ([] : List Int) := fun z hz => by cases hz
  rw [jP (by simpa using h) hb]
  apply ZV
  simp [Sec.put, xw]
theorem Xm (b : Blk) (qa t : Nat) (m : List Int) (y : Int) (hm : m.length = t) (h : qa + t < 128) (hb : IsB (m ++ [y])) :
    (wc { b with s := ze b.s qa m }).set (3 + (qa + t) * 1) (.int .u8 y) = wc { b with s := ze b.s qa (m ++ [y]) } := by
  have hbm : IsB m := fun z hz => hb z (List.mem_append_left _ hz)
  have h1 : (ze b.s qa m).l = xw b.s.l qa m := by rw [jP (by omega) hbm]; rfl
  have h2 : (ze b.s qa (m ++ [y])).l = xw b.s.l qa (m ++ [y]) := by rw [jP (by simp; omega) hb]; rfl
  have key : (xw b.s.l qa m).set (qa + t) y = xw b.s.l qa (m ++ [y]) := by
    have hl := b.s.len
    unfold xw
    rw [List.append_assoc, List.set_append_right _ _ (by simp; omega), List.append_assoc]
    congr 1
    rw [List.length_take, Nat.min_eq_left (by omega), Nat.add_sub_cancel_left, List.set_append_right _ _ (by omega), List.append_assoc]
    congr 1
    rw [hm, Nat.sub_self, List.length_append, hm]
    rw [List.drop_eq_getElem_cons (show qa + t < b.s.l.length by omega)]
    rfl
  unfold wc
  rw [show 3 + (qa + t) * 1 = (qa + t) + 1 + 1 + 1 from by omega]
  simp only [List.set_cons_succ, wW]
  congr 3
  rw [h1, h2, ← key]
  simp [u8s, List.map_set]
abbrev node0V : List Value := [.int .u32 0, .int .u32 0, .int .i64 0, .int .i64 0, .int .u32 0, .slice none 0 0, .slice none 0 0, .int .i64 0, .bool false, .int .i64 0, .bool false, .int .i64 0, .bool false, .slice none 0 0]
theorem jH (W : RS) (v : List Value) (C : qM) (hw : RefC ba bl W v C) (a : Int) (q : Option Addr) (c : Nat) (bs : List Int) (ha : -9223372036854775808 ≤ a ∧ a ≤ 9223372036854775807) (hbs : IsB bs) (hlen : (bs.length : Int) ≤ 9223372036854775807)
    (hb : Reads w0 F (.slice q bs.length c) bs.length 1 (u8s bs)) :
    FnT Tryz.prog w0 27 #[.agg v.toArray, .int .i64 a, .slice q bs.length c] (C :: F) (fun v L' => ∃ l C', v = .tuple #[.agg l.toArray, .int .i64 (yM W a bs).1] ∧ RefC ba bl (yM W a bs).2 l C' ∧ L' = C' :: F) := by
  obtain ⟨ug, Cg, rfl, hs, rfl⟩ := hw
  obtain ⟨pg, cg, rfl⟩ := hs.slice
  refine FnT.pre (L' := [(ba, .cells ((we W.all).flatMap wc ++ []).toArray 125 (0, 0))] :: [(bl, .cells ((qx W.leaves).flatMap wb ++ []).toArray 38 (0, 0))] :: Cg :: F) ?_ (wH (by simp))
  unfold k6
  refine FnT.enter (E0 := [(0, _), (1, _), (2, _)]) (N := 92) Tryz.func27 rfl rfl rfl rfl ?_
  refine Tr.seq <| Tr.region <| qF (wT rfl) ?_
  rintro t3 _ ⟨b3, rfl, rfl⟩
  refine qF (qV) ?_
  rintro t6 _ ⟨b6, rfl, rfl⟩
  refine q9 (qC rfl) <| qB <| QAt.seq <| Tr.seq <| Tr.region <| q9 (qA rfl) <| q9 (qA rfl) <| q9 (qg rfl) <| qF (qn rfl (rcut_spec a bs.length ha (by omega))) ?_
  rintro t18 _ ⟨uc, Cc, rfl, rfl, hcu⟩
  refine q9 (qA rfl) <| q9 (qR rfl rfl) <| q9 (qR rfl rfl) <| q9 (qC rfl) <| q9 (qC rfl) <| qB <| QAt.seq <| Tr.seq <| Tr.seq <| Tr.region <| q9 (qA rfl) <| q9 (wZ rfl rfl) <| q9 (qA rfl) <| qN (s := 23) rfl (fun hg2_2 => ?_) (fun hg2_2 => ?_)
  ·
   refine qH rfl rfl rfl <| qH rfl rfl rfl <| qH rfl rfl rfl <| q9 (qT rfl rfl) <| qB <| QAt.seq <| ww rfl <| Tr.seq <| Tr.region <| q9 (wE rfl) <| q9 (qA rfl) <| qK (wJ rfl rfl rfl rfl) <| q9 (qC rfl) <| qB <| z8 (qP ([(b6, .cells [.int .u32 W.num, .int .u32 W.ver, .int .i64 W.kind, .int .i64 W.size, .int .u32 W.time, .slice (some ⟨ba, 0, none⟩) 1064 1064, .slice (some ⟨bl, 0, none⟩) 32 32, .int .i64 W.sg.at_, .bool W.sg.stale, .int .i64 W.db.at_, .bool W.db.stale, .int .i64 W.self.at_, .bool W.self.stale, .slice pg W.gone.length cg].toArray 41 (0, 0))] :: [(ba, .cells ((we W.all).flatMap wc ++ []).toArray 125 (0, 0))] :: [(bl, .cells ((qx W.leaves).flatMap wb ++ []).toArray 38 (0, 0))] :: Cg :: F)) <| z8 (wH (L' := [(b6, .cells [.int .u32 W.num, .int .u32 W.ver, .int .i64 W.kind, .int .i64 W.size, .int .u32 W.time, .slice (some ⟨ba, 0, none⟩) 1064 1064, .slice (some ⟨bl, 0, none⟩) 32 32, .int .i64 W.sg.at_, .bool W.sg.stale, .int .i64 W.db.at_, .bool W.db.stale, .int .i64 W.self.at_, .bool W.self.stale, .slice pg W.gone.length cg].toArray 41 (0, 0))] :: ((ba, .cells ((we W.all).flatMap wc ++ []).toArray 125 (0, 0)) :: (bl, .cells ((qx W.leaves).flatMap wb ++ []).toArray 38 (0, 0)) :: Cg) :: F) (by simp)) ?_
   refine QAt.seq <| Tr.ret <| qe <| wC (((ba, .cells ((we W.all).flatMap wc ++ []).toArray 125 (0, 0)) :: (bl, .cells ((qx W.leaves).flatMap wb ++ []).toArray 38 (0, 0)) :: Cg) :: F) (.inl rfl) rfl (zB rfl) (qd rfl) ?_
   have hE : kE a bs.length ≠ 0 ∨ bs.length = 0 := by first | exact .inl hg2_2 | exact .inr (by omega)
   have hT : yM W a bs = (kE a bs.length, W) := by unfold yM; rw [if_pos hE]
   rw [hT]
   exact ⟨_, _, rfl, ⟨_, Cg, rfl, hs, rfl⟩, rfl⟩
  ·
   refine qE rfl rfl (qA rfl) <| qE rfl rfl (qg rfl) <| qE rfl rfl (wR rfl rfl) <| q9 (qL rfl rfl) <| qB <| QAt.seq <| qI rfl (fun hc2 => ?_) (fun hc2 => ?_)
   ·
    refine Tr.seq <| Tr.region <| q9 (wE rfl) <| q9 (qA rfl) <| qK (wJ rfl rfl rfl rfl) <| q9 (qC rfl) <| qB <| z8 (qP ([(b6, .cells [.int .u32 W.num, .int .u32 W.ver, .int .i64 W.kind, .int .i64 W.size, .int .u32 W.time, .slice (some ⟨ba, 0, none⟩) 1064 1064, .slice (some ⟨bl, 0, none⟩) 32 32, .int .i64 W.sg.at_, .bool W.sg.stale, .int .i64 W.db.at_, .bool W.db.stale, .int .i64 W.self.at_, .bool W.self.stale, .slice pg W.gone.length cg].toArray 41 (0, 0))] :: [(ba, .cells ((we W.all).flatMap wc ++ []).toArray 125 (0, 0))] :: [(bl, .cells ((qx W.leaves).flatMap wb ++ []).toArray 38 (0, 0))] :: Cg :: F)) <| z8 (wH (L' := [(b6, .cells [.int .u32 W.num, .int .u32 W.ver, .int .i64 W.kind, .int .i64 W.size, .int .u32 W.time, .slice (some ⟨ba, 0, none⟩) 1064 1064, .slice (some ⟨bl, 0, none⟩) 32 32, .int .i64 W.sg.at_, .bool W.sg.stale, .int .i64 W.db.at_, .bool W.db.stale, .int .i64 W.self.at_, .bool W.self.stale, .slice pg W.gone.length cg].toArray 41 (0, 0))] :: ((ba, .cells ((we W.all).flatMap wc ++ []).toArray 125 (0, 0)) :: (bl, .cells ((qx W.leaves).flatMap wb ++ []).toArray 38 (0, 0)) :: Cg) :: F) (by simp)) ?_
    refine QAt.seq <| Tr.ret <| qe <| wC (((ba, .cells ((we W.all).flatMap wc ++ []).toArray 125 (0, 0)) :: (bl, .cells ((qx W.leaves).flatMap wb ++ []).toArray 38 (0, 0)) :: Cg) :: F) (.inl rfl) rfl (zB rfl) (qd rfl) ?_
    have hE : kE a bs.length ≠ 0 ∨ bs.length = 0 := by first | exact .inl hg2_2 | exact .inr (by omega)
    have hT : yM W a bs = (kE a bs.length, W) := by unfold yM; rw [if_pos hE]
    rw [hT]
    exact ⟨_, _, rfl, ⟨_, Cg, rfl, hs, rfl⟩, rfl⟩
   ·
    refine Tr.skip <| QAt.seq <| Tr.seq <| Tr.region <| q9 (qC rfl) <| qB ?_
    have hE : kE a bs.length = 0 := by simpa using hg2_2
    have hne : ¬ (kE a bs.length ≠ 0 ∨ bs.length = 0) := by simp only [hE, ne_eq, not_true, false_or]; omega
    rw [hE, if_pos rfl] at hcu
    have hb0 : 0 ≤ a ∧ a + bs.length ≤ 136192 := by unfold kE at hE; split at hE <;> first | (cases hE; done) | (split at hE <;> first | (cases hE; done) | omega)
    obtain ⟨l, hl⟩ : ∃ l, kN a bs.length = l := ⟨_, rfl⟩
    have hll := K5 a bs.length
    have hsum := Jx (a := a) (n := bs.length) (by omega)
    rw [hl] at hcu hll hsum
    rcases hcu with ⟨-, h0, -⟩ | ⟨bc, capc, spc, rfl, hcsc, rfl, hcapc, hncc⟩
    · rw [List.length_eq_zero_iff.1 h0] at hsum; simp [yi] at hsum; omega
    obtain ⟨q', c', hqe, hylen, hyr⟩ := hb.h
    cases hqe
    rcases hyr with h0 | ⟨bb, ob, cb, eb, fb, rfl, hmem, hbc⟩
    · omega
    refine QAt.seq <| Tr.seq <| Tr.seq <| Tr.region <| q9 (qC rfl) <| qB <| QAt.seq <| Tr.block <| wB (Γ := {pΓ : (Nat) × (Int → Blk) × (Nat) × (Int) // (fun (i : Nat) (f : Int → Blk) (k : Nat) (z : Int) => z = k ∧ i ≤ l.length ∧ k ≤ bs.length ∧ kQ (l.drop i) (bs.drop k) f = kQ l bs W.all ∧ yi (l.drop i) = bs.length - k) pΓ.1 pΓ.2.1 pΓ.2.2.1 pΓ.2.2.2}) (fun g => (fun (i : Nat) (f : Int → Blk) (k : Nat) (z : Int) => [(1, .int .i64 a), (2, .slice (some ⟨bb, ob, none⟩) bs.length c), (3, .pointer (some ⟨b3, 0, none⟩)), (6, .pointer (some ⟨b6, 0, none⟩)), (8, .slice (some ⟨bc, 0, none⟩) l.length capc), (10, .int .i64 z), (11, .int .i64 i)]) g.1.1 g.1.2.1 g.1.2.2.1 g.1.2.2.2) (fun g => (fun (i : Nat) (f : Int → Blk) (k : Nat) (z : Int) => [(bc, .cells (l.flatMap yh ++ spc).toArray 131 (0, 0))] :: [(b3, .cells [.int .u32 W.num, .int .u32 W.ver, .int .i64 W.kind, .int .i64 W.size, .int .u32 W.time, .slice (some ⟨ba, 0, none⟩) 1064 1064, .slice (some ⟨bl, 0, none⟩) 32 32, .int .i64 W.sg.at_, .bool W.sg.stale, .int .i64 W.db.at_, .bool W.db.stale, .int .i64 W.self.at_, .bool W.self.stale, .slice pg W.gone.length cg].toArray 41 (0, 0))] :: [(b6, .cells node0V.toArray 41 (0, 0))] :: [(ba, .cells ((we f).flatMap wc ++ []).toArray 125 (0, 0))] :: [(bl, .cells ((qx W.leaves).flatMap wb ++ []).toArray 38 (0, 0))] :: Cg :: F) g.1.1 g.1.2.1 g.1.2.2.1 g.1.2.2.2) (fun g => (fun (i : Nat) (f : Int → Blk) (k : Nat) (z : Int) => l.length - i) g.1.1 g.1.2.1 g.1.2.2.1 g.1.2.2.2) ⟨(0, W.all, 0, 0), by dsimp only; exact ⟨rfl, by omega, by omega, rfl, by simpa using hsum⟩⟩ (qP _) ?_
    rintro ⟨⟨i, f, k, z⟩, hloop⟩
    replace hloop : z = k ∧ i ≤ l.length ∧ k ≤ bs.length ∧ kQ (l.drop i) (bs.drop k) f = kQ l bs W.all ∧ yi (l.drop i) = bs.length - k := hloop
    obtain ⟨hz, hi, hk, hw, hps⟩ := hloop
    show Tr _ _ _ ([(1, .int .i64 a), (2, .slice (some ⟨bb, ob, none⟩) bs.length c), (3, .pointer (some ⟨b3, 0, none⟩)), (6, .pointer (some ⟨b6, 0, none⟩)), (8, .slice (some ⟨bc, 0, none⟩) l.length capc), (10, .int .i64 z), (11, .int .i64 i)]) ([(bc, .cells (l.flatMap yh ++ spc).toArray 131 (0, 0))] :: [(b3, .cells [.int .u32 W.num, .int .u32 W.ver, .int .i64 W.kind, .int .i64 W.size, .int .u32 W.time, .slice (some ⟨ba, 0, none⟩) 1064 1064, .slice (some ⟨bl, 0, none⟩) 32 32, .int .i64 W.sg.at_, .bool W.sg.stale, .int .i64 W.db.at_, .bool W.db.stale, .int .i64 W.self.at_, .bool W.self.stale, .slice pg W.gone.length cg].toArray 41 (0, 0))] :: [(b6, .cells node0V.toArray 41 (0, 0))] :: [(ba, .cells ((we f).flatMap wc ++ []).toArray 125 (0, 0))] :: [(bl, .cells ((qx W.leaves).flatMap wb ++ []).toArray 38 (0, 0))] :: Cg :: F) _ _
    refine Tr.seq <| Tr.seq <| Tr.region <| q9 (qA rfl) <| q9 (qA rfl) <| q9 (qg rfl) <| q9 (qv rfl rfl) <| qB <| QAt.seq <| qI rfl (fun hc6 => ?_) (fun hc6 => ?_)
    ·
     refine Tr.skip <| QAt.seq <| Tr.seq <| Tr.block <| Tr.seq ?_
     obtain ⟨w, hw1⟩ : ∃ w, l[i]? = some w := ⟨_, List.getElem?_eq_getElem (by omega)⟩
     have hrg := QF (a := a) (n := bs.length) hb0.1 (hl ▸ List.mem_of_getElem? hw1)
     rw [yo hw1] at hw hps
     simp only [yi] at hps
     have hpn := Jy (a := a) (n := bs.length) hb0.1 (l.drop (i + 1)) (fun z hz => hl ▸ List.mem_of_mem_drop hz)
     obtain ⟨Q, hQ⟩ : ∃ Q : Nat, w.1 = Q := ⟨w.1.toNat, by omega⟩
     obtain ⟨qa, hqa⟩ : ∃ qa : Nat, w.2.1 = qa := ⟨w.2.1.toNat, by omega⟩
     obtain ⟨qb, hqb⟩ : ∃ qb : Nat, w.2.2 = qb := ⟨w.2.2.toNat, by omega⟩
     rw [kQ, hQ, hqa, hqb, show ((qb : Int) - qa).toNat = qb - qa from by omega, Int.toNat_natCast, List.drop_drop] at hw
     refine Tr.drawn qm <| qr [(36, .pure _), (37, .pure _), (38, .pure _), (39, .pure _), (40, .pure _), (41, .pure _), (42, .pure _), (43, .pure _), (44, .pure _), (12, .act [] (XK _ 125))] (by kernel_rfl) rfl rfl rfl (Q8 [[]] rfl) (ParH.pure rfl (fun X => qD rfl) <| ParH.pure rfl (fun X => qG rfl rfl) <| ParH.pure rfl (fun X => qA rfl) <| ParH.pure rfl (fun X => qA rfl) <| ParH.pure rfl (fun X => qf (j := i) (off := i * 3) rfl rfl rfl (by omega) (by simp)) <| ParH.pure rfl (fun X => qk rfl) <| ParH.pure rfl (fun X => zF (j := i) (k := 0) yg rfl hw1 rfl rfl) <| ParH.pure rfl (fun X => qf (j := Q) (off := Q * 131) rfl rfl hQ (by omega) (by simp)) <| ParH.pure rfl (fun X => wk (j := Q) zK rfl (zn (by omega)) rfl) <| ParH.act rfl (fun X => Z6) <| ParH.nil rfl) ?_
     rintro _ _ ⟨b12, rfl, rfl⟩
     dsimp only [zG, List.drop, List.length]
     refine k0 (by kernel_rfl) (qW rfl rfl (zK Blk.zero) (zK _) (KC _)) ?_
     refine qt <| QAt.seq <| Tr.seq <| Tr.seq <| Tr.region <| q9 (qA rfl) <| q9 (qA rfl) <| q9 (qf (j := i) (off := i * 3) rfl rfl rfl (by omega) (by simp)) ?_
     refine q9 (qk rfl) <| q9 (zF (j := i) (k := 1) (v := .int .i64 qa) yg rfl hw1 rfl (by rw [← hqa]; rfl)) ?_
     refine q9 (qC rfl) <| qB ?_
     have e0 : wc (f Q) = wc { f Q with s := ze (f Q).s qa ((bs.drop k).take 0) } := by rw [List.take_zero, Jk _ (by omega)]
     rw [e0]
     refine QAt.seq <| Tr.block <| wB (Γ := {pΓ : (Nat) × (Int) × (Int) // (fun (t : Nat) (z1 : Int) (z2 : Int) => t ≤ qb - qa ∧ z1 = k + t ∧ z2 = qa + t) pΓ.1 pΓ.2.1 pΓ.2.2}) (fun g => (fun (t : Nat) (z1 : Int) (z2 : Int) => [(1, .int .i64 a), (2, .slice (some ⟨bb, ob, none⟩) bs.length c), (3, .pointer (some ⟨b3, 0, none⟩)), (6, .pointer (some ⟨b6, 0, none⟩)), (8, .slice (some ⟨bc, 0, none⟩) l.length capc), (10, .int .i64 z1), (11, .int .i64 i), (12, .pointer (some ⟨b12, 0, none⟩)), (13, .int .i64 z2)]) g.1.1 g.1.2.1 g.1.2.2) (fun g => (fun (t : Nat) (z1 : Int) (z2 : Int) => [(b12, .cells (wc { f Q with s := ze (f Q).s qa ((bs.drop k).take t) }).toArray 125 (0, 0))] :: [(bc, .cells (l.flatMap yh ++ spc).toArray 131 (0, 0))] :: [(b3, .cells [.int .u32 W.num, .int .u32 W.ver, .int .i64 W.kind, .int .i64 W.size, .int .u32 W.time, .slice (some ⟨ba, 0, none⟩) 1064 1064, .slice (some ⟨bl, 0, none⟩) 32 32, .int .i64 W.sg.at_, .bool W.sg.stale, .int .i64 W.db.at_, .bool W.db.stale, .int .i64 W.self.at_, .bool W.self.stale, .slice pg W.gone.length cg].toArray 41 (0, 0))] :: [(b6, .cells node0V.toArray 41 (0, 0))] :: [(ba, .cells ((we f).flatMap wc ++ []).toArray 125 (0, 0))] :: [(bl, .cells ((qx W.leaves).flatMap wb ++ []).toArray 38 (0, 0))] :: Cg :: F) g.1.1 g.1.2.1 g.1.2.2) (fun g => (fun (t : Nat) (z1 : Int) (z2 : Int) => (qb - qa) - t) g.1.1 g.1.2.1 g.1.2.2) ⟨(0, z, qa), by dsimp only; exact ⟨by omega, by omega, by omega⟩⟩ (qP _) ?_
     rintro ⟨⟨t, z1, z2⟩, hloop⟩
     replace hloop : t ≤ qb - qa ∧ z1 = k + t ∧ z2 = qa + t := hloop
     obtain ⟨ht, hz1, hz2⟩ := hloop
     show Tr _ _ _ ([(1, .int .i64 a), (2, .slice (some ⟨bb, ob, none⟩) bs.length c), (3, .pointer (some ⟨b3, 0, none⟩)), (6, .pointer (some ⟨b6, 0, none⟩)), (8, .slice (some ⟨bc, 0, none⟩) l.length capc), (10, .int .i64 z1), (11, .int .i64 i), (12, .pointer (some ⟨b12, 0, none⟩)), (13, .int .i64 z2)]) ([(b12, .cells (wc { f Q with s := ze (f Q).s qa ((bs.drop k).take t) }).toArray 125 (0, 0))] :: [(bc, .cells (l.flatMap yh ++ spc).toArray 131 (0, 0))] :: [(b3, .cells [.int .u32 W.num, .int .u32 W.ver, .int .i64 W.kind, .int .i64 W.size, .int .u32 W.time, .slice (some ⟨ba, 0, none⟩) 1064 1064, .slice (some ⟨bl, 0, none⟩) 32 32, .int .i64 W.sg.at_, .bool W.sg.stale, .int .i64 W.db.at_, .bool W.db.stale, .int .i64 W.self.at_, .bool W.self.stale, .slice pg W.gone.length cg].toArray 41 (0, 0))] :: [(b6, .cells node0V.toArray 41 (0, 0))] :: [(ba, .cells ((we f).flatMap wc ++ []).toArray 125 (0, 0))] :: [(bl, .cells ((qx W.leaves).flatMap wb ++ []).toArray 38 (0, 0))] :: Cg :: F) _ _
     refine Tr.seq <| Tr.seq <| Tr.region <| q9 (qA rfl) <| q9 (qA rfl) <| q9 (qA rfl) <| q9 (qf (j := i) (off := i * 3) rfl rfl rfl (by omega) (by simp)) ?_
     refine q9 (qk rfl) <| q9 (zF (j := i) (k := 2) (v := .int .i64 qb) yg rfl hw1 (by simp) (by rw [← hqb]; rfl)) ?_
     refine q9 (qv rfl rfl) <| qB <| QAt.seq <| qI rfl (fun hc10 => ?_) (fun hc10 => ?_)
     ·
      refine Tr.skip <| QAt.seq <| Tr.seq <| Tr.block <| Tr.seq ?_
      obtain ⟨y, hy⟩ : ∃ y, bs[k + t]? = some y := ⟨_, List.getElem?_eq_getElem (by omega)⟩
      have hcy : cb[ob + (k + t) * 1]? = some (.int .u8 y) := by
        have h1 : ((cb.toList.drop ob).take (bs.length * 1))[k + t]? = some (.int .u8 y) := by rw [hbc]; simp [u8s, hy]
        rw [List.getElem?_take, if_pos (by omega), List.getElem?_drop] at h1
        rw [← Array.getElem?_toList, Nat.mul_one]; exact h1
      have hm0 : IsB ((bs.drop k).take t ++ [y]) := xr (fun z hz => hbs z (List.mem_of_mem_drop (List.mem_of_mem_take hz))) (fun z hz => by rw [List.mem_singleton.1 hz]; exact hbs y (List.mem_of_getElem? hy))
      refine Tr.region <| q9 (qA rfl) <| q9 (qA rfl) <| q9 (qA rfl) <| q9 (qf (o1 := ob) (j := k + t) (off := ob + (k + t) * 1) rfl rfl (by omega) (by omega) rfl) <| q9 (W4 (c := cb) (e := eb) (fr := fb) (v := .int .u8 y) rfl (by repeat (first | exact hmem | apply mem_flat_tail)) hcy) ?_
      refine q9 (qD rfl) <| q9 (wO (j := qa + t) (off := 3 + (qa + t) * 1) rfl rfl (by omega) (by omega) (by simp)) ?_
      refine qK (zx rfl rfl (by rw [zK]; omega) rfl) ?_
      refine qB <| QAt.seq <| Tr.region <| q9 (qA rfl) <| q9 (qj rfl rfl (by omega)) <| q9 (qC rfl) <| qB <| QAt.block <| QAt.seq <| Tr.region <| q9 (qA rfl) <| q9 (qj rfl rfl (by omega)) <| q9 (qC rfl) <| qB <| qh ⟨(t + 1, _, _), ?_⟩ ?_ ?_
      · (try dsimp only); exact ⟨by omega, by omega, by omega⟩
      · (try dsimp only); omega
      · (try dsimp only); exact (by rw [show (bs.drop k).take (t + 1) = (bs.drop k).take t ++ [y] from by rw [List.take_add_one, List.getElem?_drop, hy]; rfl]; rw [← Xm (f Q) qa t _ y (by simp; omega) (by omega) hm0]; exact qP _)
     ·
      refine Tr.exit <| qX <| qY <| qS <| QAt.seq <| Tr.seq ?_
      have htl : t = qb - qa := by omega
      subst htl
      obtain ⟨nb, hnb⟩ : ∃ nb : Blk, nb = ⟨true, (f Q).at_, true, ze (f Q).s qa ((bs.drop k).take (qb - qa))⟩ := ⟨_, rfl⟩
      refine Tr.region <| q9 (qD rfl) <| qK (zx rfl rfl (by rw [zK]; omega) rfl) ?_
      refine qB <| QAt.seq <| Tr.seq <| Tr.region <| q9 (qD rfl) <| qK (zx rfl rfl (by rw [List.length_set, zK]; omega) rfl) ?_
      refine qB <| z8 (L' := [(b12, .cells (wc nb).toArray 125 (0, 0))] :: [(bc, .cells (l.flatMap yh ++ spc).toArray 131 (0, 0))] :: [(b3, .cells [.int .u32 W.num, .int .u32 W.ver, .int .i64 W.kind, .int .i64 W.size, .int .u32 W.time, .slice (some ⟨ba, 0, none⟩) 1064 1064, .slice (some ⟨bl, 0, none⟩) 32 32, .int .i64 W.sg.at_, .bool W.sg.stale, .int .i64 W.db.at_, .bool W.db.stale, .int .i64 W.self.at_, .bool W.self.stale, .slice pg W.gone.length cg].toArray 41 (0, 0))] :: [(b6, .cells node0V.toArray 41 (0, 0))] :: [(ba, .cells ((we f).flatMap wc ++ []).toArray 125 (0, 0))] :: [(bl, .cells ((qx W.leaves).flatMap wb ++ []).toArray 38 (0, 0))] :: Cg :: F) (y7 (by rw [hnb]; rfl)) ?_
      refine QAt.seq <| Tr.drawn qm <| qr [(70, .pure _), (71, .pure _), (72, .pure _), (73, .pure _), (74, .pure _), (75, .pure _), (76, .pure _), (77, .pure _)] (by kernel_rfl) rfl rfl rfl wL (ParH.pure rfl (fun X => qD rfl) <| ParH.pure rfl (fun X => qG rfl rfl) <| ParH.pure rfl (fun X => qA rfl) <| ParH.pure rfl (fun X => qA rfl) <| ParH.pure rfl (fun X => qf (j := i) (off := i * 3) rfl rfl rfl (by omega) (by simp)) <| ParH.pure rfl (fun X => qk rfl) <| ParH.pure rfl (fun X => zF (j := i) (k := 0) yg rfl hw1 rfl rfl) <| ParH.pure rfl (fun X => w7 rfl (zK _)) <| ParH.nil rfl) ?_
      dsimp only [zG, List.drop, List.length]
      refine qq (by kernel_rfl) (qf (j := Q) (off := Q * 131) rfl rfl hQ (by omega) (by simp)) ?_
      refine k0 (by kernel_rfl) (wq (j := Q) (p' := nb) zK rfl rfl rfl (zn (by omega)) rfl (KC _)) ?_
      refine qt ?_
      rw [show (we f).set Q nb = we (upd f (Q : Int) nb) from zP]
      refine QAt.block <| QAt.seq <| Tr.region <| q9 (qA rfl) <| q9 (qj rfl rfl (by omega)) <| q9 (qC rfl) <| qB <| qh ⟨(i + 1, upd f (Q : Int) nb, k + (qb - qa), _), ?_⟩ ?_ ?_
      · (try dsimp only); exact ⟨by omega, by omega, by omega, by rw [hnb]; exact hw, by omega⟩
      · (try dsimp only); omega
      · (try dsimp only); exact qP _
    ·
     refine Tr.exit <| qX <| qY <| qS <| QAt.seq <| Tr.seq <| Tr.seq ?_
     rw [List.drop_of_length_le (by omega), kQ] at hw
     have hT : yM W a bs = (0, { W with all := f, size := max W.size (a + bs.length) }) := by unfold yM; rw [if_neg hne, hl, ← hw]
     refine yW (L' := [(b3, .cells [.int .u32 W.num, .int .u32 W.ver, .int .i64 W.kind, .int .i64 W.size, .int .u32 W.time, .slice (some ⟨ba, 0, none⟩) 1064 1064, .slice (some ⟨bl, 0, none⟩) 32 32, .int .i64 W.sg.at_, .bool W.sg.stale, .int .i64 W.db.at_, .bool W.db.stale, .int .i64 W.self.at_, .bool W.self.stale, .slice pg W.gone.length cg].toArray 41 (0, 0))] :: [(b6, .cells node0V.toArray 41 (0, 0))] :: ((ba, .cells ((we f).flatMap wc ++ []).toArray 125 (0, 0)) :: (bl, .cells ((qx W.leaves).flatMap wb ++ []).toArray 38 (0, 0)) :: Cg) :: F) (fun w hw => wH (by simp) w hw.tail) ?_
     refine Tr.region <| q9 (qA rfl) <| q9 (qA rfl) <| q9 (qg rfl) <| q9 (qj rfl rfl (by omega)) <| q9 (qD rfl) <| q9 (qG rfl rfl) <| q9 (zd rfl rfl) <| qB <| QAt.seq <| qI rfl (fun hc17 => ?_) (fun hc17 => ?_)
     ·
      refine Tr.region <| q9 (qA rfl) <| q9 (qA rfl) <| q9 (qg rfl) <| q9 (qj rfl rfl (by omega)) <| q9 (qD rfl) <| qK (wX rfl rfl rfl) <| qB <| QAt.seq <| Tr.seq <| Tr.region <| q9 (wE rfl) <| qK (wJ rfl rfl rfl rfl) <| q9 (qC rfl) <| qB <| QAt.seq <| Tr.ret <| wC (((ba, .cells ((we f).flatMap wc ++ []).toArray 125 (0, 0)) :: (bl, .cells ((qx W.leaves).flatMap wb ++ []).toArray 38 (0, 0)) :: Cg) :: F) (.inl rfl) rfl (zB rfl) (qd rfl) ?_
      rw [hT]
      first
      | exact ⟨_, _, rfl, ⟨_, Cg, by rw [show max W.size (a + bs.length) = a + bs.length from by omega]; rfl, hs, rfl⟩, rfl⟩
      | exact ⟨_, _, rfl, ⟨_, Cg, by rw [show max W.size (a + bs.length) = W.size from by omega]; rfl, hs, rfl⟩, rfl⟩
     ·
      refine Tr.skip <| QAt.seq <| Tr.seq <| Tr.region <| q9 (wE rfl) <| qK (wJ rfl rfl rfl rfl) <| q9 (qC rfl) <| qB <| QAt.seq <| Tr.ret <| wC (((ba, .cells ((we f).flatMap wc ++ []).toArray 125 (0, 0)) :: (bl, .cells ((qx W.leaves).flatMap wb ++ []).toArray 38 (0, 0)) :: Cg) :: F) (.inl rfl) rfl (zB rfl) (qd rfl) ?_
      rw [hT]
      first
      | exact ⟨_, _, rfl, ⟨_, Cg, by rw [show max W.size (a + bs.length) = a + bs.length from by omega]; rfl, hs, rfl⟩, rfl⟩
      | exact ⟨_, _, rfl, ⟨_, Cg, by rw [show max W.size (a + bs.length) = W.size from by omega]; rfl, hs, rfl⟩, rfl⟩
def zm (W : RS) (p : zk) : RS := if p.at_ ≠ 0 then { W with gone := W.gone ++ [p.at_] } else W
theorem yN (W : RS) (v : List Value) (C : qM) (hw : RefC ba bl W v C) (p : zk) (hgl : W.gone.length ≤ 900000) :
    FnT Tryz.prog w0 67 #[.agg v.toArray, .agg (wb p).toArray] (C :: F) (fun v L' => ∃ l C', v = .tuple #[.agg l.toArray, .agg (wb ⟨0, false⟩).toArray] ∧ RefC ba bl (zm W p) l C' ∧ L' = C' :: F) := by
  obtain ⟨ug, Cg, rfl, hs, rfl⟩ := hw
  obtain ⟨pg, cg, rfl⟩ := hs.slice
  refine FnT.pre (L' := [(ba, .cells ((we W.all).flatMap wc ++ []).toArray 125 (0, 0))] :: [(bl, .cells ((qx W.leaves).flatMap wb ++ []).toArray 38 (0, 0))] :: Cg :: F) ?_ (wH (by simp))
  unfold k6
  rw [show wb p = [.int .i64 p.at_, .bool p.stale] from rfl]
  refine FnT.enter (E0 := [(0, _), (1, _)]) (N := 18) Tryz.func67 rfl rfl rfl rfl ?_
  refine Tr.seq <| Tr.region <| qF (wT rfl) ?_
  rintro t2 _ ⟨b2, rfl, rfl⟩
  refine qF (wT rfl) ?_
  rintro t3 _ ⟨b3, rfl, rfl⟩
  refine qF (qV) ?_
  rintro t4 _ ⟨b4, rfl, rfl⟩
  refine qF (qV) ?_
  rintro t5 _ ⟨b5, rfl, rfl⟩
  refine qB <| QAt.seq <| zA (Γ := {pΓ : (List Int) × (Option Addr) × (Nat) × (qM) // (fun (gl : List Int) (pg : Option Addr) (cg : Nat) (Cg : qM) => SlC 3 1 (.slice pg gl.length cg) gl.length (iV gl) Cg ∧ gl = (zm W p).gone) pΓ.1 pΓ.2.1 pΓ.2.2.1 pΓ.2.2.2}) (fun g => (fun (gl : List Int) (pg : Option Addr) (cg : Nat) (Cg : qM) => [(2, .pointer (some ⟨b2, 0, none⟩)), (4, .pointer (some ⟨b4, 0, none⟩)), (5, .pointer (some ⟨b5, 0, none⟩))]) g.1.1 g.1.2.1 g.1.2.2.1 g.1.2.2.2) (fun g => (fun (gl : List Int) (pg : Option Addr) (cg : Nat) (Cg : qM) => [(b2, .cells [.int .u32 W.num, .int .u32 W.ver, .int .i64 W.kind, .int .i64 W.size, .int .u32 W.time, .slice (some ⟨ba, 0, none⟩) 1064 1064, .slice (some ⟨bl, 0, none⟩) 32 32, .int .i64 W.sg.at_, .bool W.sg.stale, .int .i64 W.db.at_, .bool W.db.stale, .int .i64 W.self.at_, .bool W.self.stale, .slice pg gl.length cg].toArray 41 (0, 0))] :: [(b4, .cells node0V.toArray 41 (0, 0))] :: [(b5, .cells [Value.int .i64 0, Value.bool false].toArray 38 (0, 0))] :: [(ba, .cells ((we W.all).flatMap wc ++ []).toArray 125 (0, 0))] :: [(bl, .cells ((qx W.leaves).flatMap wb ++ []).toArray 38 (0, 0))] :: Cg :: F) g.1.1 g.1.2.1 g.1.2.2.1 g.1.2.2.2) ?_ ?_
  ·
   refine Tr.seq <| Tr.region <| q9 (qD rfl) <| q9 (qG rfl rfl) <| q9 (wZ rfl rfl) <| qB <| QAt.seq <| qI rfl (fun hc1 => ?_) (fun hc1 => ?_)
   ·
    refine Tr.region <| q9 (qD rfl) <| q9 (qG rfl rfl) <| q9 (qD rfl) <| q9 (qG rfl rfl) <| qF (w5 rfl rfl rfl) ?_
    rintro t13 _ ⟨b13, rfl, rfl⟩
    refine qF (wP (m := 1) (sz := 1) rfl rfl hs (wQ (ys := iV [p.at_]) inferInstance rfl rfl) rfl Tryz.underlying39 rfl rfl (by omega)) ?_
    rintro t14 _ ⟨C', hs', rfl⟩
    obtain ⟨pg', cg', rfl⟩ := hs'.slice
    refine q9 (qD rfl) <| qK (wX rfl rfl rfl) <| qB <| qO ⟨(W.gone ++ [p.at_], pg', cg', C'), ?_⟩ ?_
    · (try dsimp only); exact ⟨by rw [List.length_append]; simpa [iV] using hs', by unfold zm; rw [if_pos hc1]⟩
    · (try dsimp only); exact (by rw [List.length_append]; exact qP _)
   ·
    refine Tr.skip <| qO ⟨(W.gone, pg, cg, Cg), ?_⟩ ?_
    · (try dsimp only); exact ⟨hs, by unfold zm; rw [if_neg hc1]⟩
    · (try dsimp only); exact qP _
  rintro ⟨⟨gl, pg, cg, Cg⟩, hcut⟩
  replace hcut : SlC 3 1 (.slice pg gl.length cg) gl.length (iV gl) Cg ∧ gl = (zm W p).gone := hcut
  obtain ⟨hs2, hgl2⟩ := hcut
  show Tr _ _ _ ([(2, .pointer (some ⟨b2, 0, none⟩)), (4, .pointer (some ⟨b4, 0, none⟩)), (5, .pointer (some ⟨b5, 0, none⟩))]) ([(b2, .cells [.int .u32 W.num, .int .u32 W.ver, .int .i64 W.kind, .int .i64 W.size, .int .u32 W.time, .slice (some ⟨ba, 0, none⟩) 1064 1064, .slice (some ⟨bl, 0, none⟩) 32 32, .int .i64 W.sg.at_, .bool W.sg.stale, .int .i64 W.db.at_, .bool W.db.stale, .int .i64 W.self.at_, .bool W.self.stale, .slice pg gl.length cg].toArray 41 (0, 0))] :: [(b4, .cells node0V.toArray 41 (0, 0))] :: [(b5, .cells [Value.int .i64 0, Value.bool false].toArray 38 (0, 0))] :: [(ba, .cells ((we W.all).flatMap wc ++ []).toArray 125 (0, 0))] :: [(bl, .cells ((qx W.leaves).flatMap wb ++ []).toArray 38 (0, 0))] :: Cg :: F) _ _
  refine Tr.seq <| Tr.region <| q9 (wE rfl) <| q9 (yn rfl Tryz.underlying38 rfl (fun _ _ => ⟨_, inferInstance⟩) (fun _ _ h => by cases h)) ?_
  refine qK (wJ rfl rfl rfl rfl) <| qK (wJ rfl rfl rfl rfl) <| qB <| z8 (L' := [(b4, .cells [.int .u32 W.num, .int .u32 W.ver, .int .i64 W.kind, .int .i64 W.size, .int .u32 W.time, .slice (some ⟨ba, 0, none⟩) 1064 1064, .slice (some ⟨bl, 0, none⟩) 32 32, .int .i64 W.sg.at_, .bool W.sg.stale, .int .i64 W.db.at_, .bool W.db.stale, .int .i64 W.self.at_, .bool W.self.stale, .slice pg gl.length cg].toArray 41 (0, 0))] :: [(b5, .cells [Value.int .i64 0, Value.bool false].toArray 38 (0, 0))] :: ((ba, .cells ((we W.all).flatMap wc ++ []).toArray 125 (0, 0)) :: (bl, .cells ((qx W.leaves).flatMap wb ++ []).toArray 38 (0, 0)) :: Cg) :: F) (fun w hw => wH (by simp) w hw.tail) ?_
  refine QAt.seq <| Tr.ret <| wC (((ba, .cells ((we W.all).flatMap wc ++ []).toArray 125 (0, 0)) :: (bl, .cells ((qx W.leaves).flatMap wb ++ []).toArray 38 (0, 0)) :: Cg) :: F) (.inl rfl) rfl (zB rfl) (zB rfl) <| ⟨_, _, rfl, ⟨_, Cg, ?_, by rw [← hgl2]; exact hs2, ?_⟩, rfl⟩ <;> unfold zm <;> split <;> rfl
def jw (W : RS) (i : Int) : RS := { W with
  gone := if (W.all i).at_ ≠ 0 then W.gone ++ [(W.all i).at_] else W.gone
  all := upd W.all i Blk.zero
  self := ⟨W.self.at_, true⟩
  sg := if (w8 i).1 = 1 then ⟨W.sg.at_, true⟩ else W.sg
  leaves := if (w8 i).1 = 2 then upd W.leaves (w8 i).2.1 ⟨(W.leaves (w8 i).2.1).at_, true⟩ else W.leaves
  db := if (w8 i).1 = 2 then ⟨W.db.at_, true⟩ else W.db }
theorem KV {i : Int} (h : 0 ≤ i ∧ i < 1064) (h2 : (w8 i).1 = 2) : 0 ≤ (w8 i).2.1 ∧ (w8 i).2.1 < 32 := by
  by_cases h8 : i < 8
  · unfold w8 at h2; rw [if_neg (by omega), if_pos h8] at h2; simp at h2
  · by_cases h40 : i < 40
    · unfold w8 at h2; rw [if_neg (by omega), if_neg h8, if_pos h40] at h2; simp at h2
    · have e : w8 i = (2, (i - 40) / 32, (i - 40) % 32) := by unfold w8; rw [if_neg (by omega), if_neg h8, if_neg h40, if_pos (by omega)]
      rw [e]; dsimp only; omega
theorem rhole_ok (W : RS) (v : List Value) (C : qM) (hw : RefC ba bl W v C) (i : Nat) (hi : i < 1064) (hgl : W.gone.length ≤ 900000) :
    FnT Tryz.prog w0 65 #[.agg v.toArray, .int .i64 i] (C :: F) (fun v L' => ∃ l C', v = .agg l.toArray ∧ RefC ba bl (jw W i) l C' ∧ L' = C' :: F) := by
  obtain ⟨ug, Cg, rfl, hs, rfl⟩ := hw
  obtain ⟨pg, cg, rfl⟩ := hs.slice
  refine FnT.pre (L' := [(ba, .cells ((we W.all).flatMap wc ++ []).toArray 125 (0, 0))] :: [(bl, .cells ((qx W.leaves).flatMap wb ++ []).toArray 38 (0, 0))] :: Cg :: F) ?_ (wH (by simp))
  unfold k6
  refine FnT.enter (E0 := [(0, _), (1, _)]) (N := 54) Tryz.func65 rfl rfl rfl rfl ?_
  refine Tr.seq <| Tr.region <| qF (wT rfl) ?_
  rintro t2 _ ⟨b2, rfl, rfl⟩
  refine qF (qV) ?_
  rintro t4 _ ⟨b4, rfl, rfl⟩
  refine qB <| QAt.seq <| zA (Γ := {pΓ : (List Int) × (Option Addr) × (Nat) × (qM) // (fun (gl : List Int) (pg : Option Addr) (cg : Nat) (Cg : qM) => SlC 3 1 (.slice pg gl.length cg) gl.length (iV gl) Cg ∧ gl = (jw W i).gone) pΓ.1 pΓ.2.1 pΓ.2.2.1 pΓ.2.2.2}) (fun g => (fun (gl : List Int) (pg : Option Addr) (cg : Nat) (Cg : qM) => [(1, .int .i64 i), (2, .pointer (some ⟨b2, 0, none⟩)), (4, .pointer (some ⟨b4, 0, none⟩))]) g.1.1 g.1.2.1 g.1.2.2.1 g.1.2.2.2) (fun g => (fun (gl : List Int) (pg : Option Addr) (cg : Nat) (Cg : qM) => [(b2, .cells [.int .u32 W.num, .int .u32 W.ver, .int .i64 W.kind, .int .i64 W.size, .int .u32 W.time, .slice (some ⟨ba, 0, none⟩) 1064 1064, .slice (some ⟨bl, 0, none⟩) 32 32, .int .i64 W.sg.at_, .bool W.sg.stale, .int .i64 W.db.at_, .bool W.db.stale, .int .i64 W.self.at_, .bool W.self.stale, .slice pg gl.length cg].toArray 41 (0, 0))] :: [(b4, .cells node0V.toArray 41 (0, 0))] :: [(ba, .cells ((we W.all).flatMap wc ++ []).toArray 125 (0, 0))] :: [(bl, .cells ((qx W.leaves).flatMap wb ++ []).toArray 38 (0, 0))] :: Cg :: F) g.1.1 g.1.2.1 g.1.2.2.1 g.1.2.2.2) ?_ ?_
  ·
   refine Tr.seq <| Tr.region <| q9 (qD rfl) <| q9 (qG rfl rfl) <| q9 (qA rfl) <| q9 (qf (j := i) (off := i * 131) rfl rfl rfl (by omega) (by simp)) ?_
   refine q9 (qk rfl) <| q9 (zF (j := i) (k := 1) (v := .int .i64 (W.all i).at_) zK rfl (zn hi) rfl rfl) <| q9 (wZ rfl rfl) <| qB <| QAt.seq <| qI rfl (fun hc1 => ?_) (fun hc1 => ?_)
   ·
    refine yL qm (show TrS _ _ _ _ [false, false, false, false, false, false, false, false, false, false, false, false] _ _ _ from ?_)
    refine TrS.take 0 rfl rfl (by kernel_rfl) rfl (wY rfl) ?_
    refine TrS.take 2 rfl rfl (by kernel_rfl) rfl (wY rfl) ?_
    refine TrS.take 4 rfl rfl (by kernel_rfl) rfl (w6 rfl) ?_
    refine wg (i := 1) (j := 3) (by kernel_rfl) rfl ?_ ?_
    ·
     refine qQ rfl rfl rfl (qG rfl rfl) <| TrS.one (i := 3) (by kernel_rfl) rfl ?_
     refine qQ rfl rfl rfl (qG rfl rfl) <| TrS.take 5 rfl rfl (by kernel_rfl) rfl (wU (j := i) (off := i * 131) rfl rfl rfl (by omega) (by simp)) ?_
     refine TrS.take 6 rfl rfl (by kernel_rfl) rfl (Wf rfl) ?_
     refine TrS.one (i := 7) (by kernel_rfl) rfl ?_
     refine qQ rfl rfl rfl (zF (j := i) (k := 1) (v := .int .i64 (W.all i).at_) zK rfl (zn hi) rfl rfl) <| TrS.one (i := 8) (by kernel_rfl) rfl ?_
     refine qp rfl rfl rfl (w5 rfl rfl rfl) ?_
     rintro t22 _ ⟨b22, rfl, rfl⟩
     refine TrS.one (i := 9) (by kernel_rfl) rfl ?_
     refine qp rfl rfl rfl (wP (m := 1) (sz := 1) rfl rfl hs (wQ (ys := iV [(W.all i).at_]) inferInstance rfl rfl) rfl Tryz.underlying39 rfl rfl (by omega)) ?_
     rintro t23 _ ⟨C', hs', rfl⟩
     obtain ⟨pg', cg', rfl⟩ := hs'.slice
     refine TrS.take 10 rfl rfl (by kernel_rfl) rfl (wY rfl) ?_
     refine TrS.one (i := 11) (by kernel_rfl) rfl ?_
     refine w9 rfl rfl rfl (wX rfl rfl rfl) <| qy (by kernel_rfl) ?_
     refine qO ⟨(W.gone ++ [(W.all i).at_], pg', cg', C'), ?_⟩ ?_
     · (try dsimp only); exact ⟨by rw [List.length_append]; simpa [iV] using hs', by unfold jw; rw [if_pos hc1]⟩
     · (try dsimp only); exact (by rw [List.length_append]; exact qP _)
    ·
     refine qQ rfl rfl rfl (qG rfl rfl) <| TrS.take 5 rfl rfl (by kernel_rfl) rfl (wU (j := i) (off := i * 131) rfl rfl rfl (by omega) (by simp)) ?_
     refine TrS.take 6 rfl rfl (by kernel_rfl) rfl (Wf rfl) ?_
     refine wg (i := 1) (j := 7) (by kernel_rfl) rfl ?_ ?_
     ·
      refine qQ rfl rfl rfl (qG rfl rfl) <| TrS.one (i := 7) (by kernel_rfl) rfl ?_
      refine qQ rfl rfl rfl (zF (j := i) (k := 1) (v := .int .i64 (W.all i).at_) zK rfl (zn hi) rfl rfl) <| TrS.one (i := 8) (by kernel_rfl) rfl ?_
      refine qp rfl rfl rfl (w5 rfl rfl rfl) ?_
      rintro t22 _ ⟨b22, rfl, rfl⟩
      refine TrS.one (i := 9) (by kernel_rfl) rfl ?_
      refine qp rfl rfl rfl (wP (m := 1) (sz := 1) rfl rfl hs (wQ (ys := iV [(W.all i).at_]) inferInstance rfl rfl) rfl Tryz.underlying39 rfl rfl (by omega)) ?_
      rintro t23 _ ⟨C', hs', rfl⟩
      obtain ⟨pg', cg', rfl⟩ := hs'.slice
      refine TrS.take 10 rfl rfl (by kernel_rfl) rfl (wY rfl) ?_
      refine TrS.one (i := 11) (by kernel_rfl) rfl ?_
      refine w9 rfl rfl rfl (wX rfl rfl rfl) <| qy (by kernel_rfl) ?_
      refine qO ⟨(W.gone ++ [(W.all i).at_], pg', cg', C'), ?_⟩ ?_
      · (try dsimp only); exact ⟨by rw [List.length_append]; simpa [iV] using hs', by unfold jw; rw [if_pos hc1]⟩
      · (try dsimp only); exact (by rw [List.length_append]; exact qP _)
     ·
      refine qQ rfl rfl rfl (zF (j := i) (k := 1) (v := .int .i64 (W.all i).at_) zK rfl (zn hi) rfl rfl) <| wg (i := 1) (j := 8) (by kernel_rfl) rfl ?_ ?_
      ·
       refine qQ rfl rfl rfl (qG rfl rfl) <| TrS.one (i := 8) (by kernel_rfl) rfl ?_
       refine qp rfl rfl rfl (w5 rfl rfl rfl) ?_
       rintro t22 _ ⟨b22, rfl, rfl⟩
       refine TrS.one (i := 9) (by kernel_rfl) rfl ?_
       refine qp rfl rfl rfl (wP (m := 1) (sz := 1) rfl rfl hs (wQ (ys := iV [(W.all i).at_]) inferInstance rfl rfl) rfl Tryz.underlying39 rfl rfl (by omega)) ?_
       rintro t23 _ ⟨C', hs', rfl⟩
       obtain ⟨pg', cg', rfl⟩ := hs'.slice
       refine TrS.take 10 rfl rfl (by kernel_rfl) rfl (wY rfl) ?_
       refine TrS.one (i := 11) (by kernel_rfl) rfl ?_
       refine w9 rfl rfl rfl (wX rfl rfl rfl) <| qy (by kernel_rfl) ?_
       refine qO ⟨(W.gone ++ [(W.all i).at_], pg', cg', C'), ?_⟩ ?_
       · (try dsimp only); exact ⟨by rw [List.length_append]; simpa [iV] using hs', by unfold jw; rw [if_pos hc1]⟩
       · (try dsimp only); exact (by rw [List.length_append]; exact qP _)
      ·
       refine qp rfl rfl rfl (w5 rfl rfl rfl) ?_
       rintro t22 _ ⟨b22, rfl, rfl⟩
       refine TrS.one (i := 1) (by kernel_rfl) rfl ?_
       refine qQ rfl rfl rfl (qG rfl rfl) <| TrS.one (i := 9) (by kernel_rfl) rfl ?_
       refine qp rfl rfl rfl (wP (m := 1) (sz := 1) rfl rfl hs (wQ (ys := iV [(W.all i).at_]) inferInstance rfl rfl) rfl Tryz.underlying39 rfl rfl (by omega)) ?_
       rintro t23 _ ⟨C', hs', rfl⟩
       obtain ⟨pg', cg', rfl⟩ := hs'.slice
       refine TrS.take 10 rfl rfl (by kernel_rfl) rfl (wY rfl) ?_
       refine TrS.one (i := 11) (by kernel_rfl) rfl ?_
       refine w9 rfl rfl rfl (wX rfl rfl rfl) <| qy (by kernel_rfl) ?_
       refine qO ⟨(W.gone ++ [(W.all i).at_], pg', cg', C'), ?_⟩ ?_
       · (try dsimp only); exact ⟨by rw [List.length_append]; simpa [iV] using hs', by unfold jw; rw [if_pos hc1]⟩
       · (try dsimp only); exact (by rw [List.length_append]; exact qP _)
   ·
    refine Tr.skip <| qO ⟨(W.gone, pg, cg, Cg), ?_⟩ ?_
    · (try dsimp only); exact ⟨hs, by unfold jw; rw [if_neg hc1]⟩
    · (try dsimp only); exact qP _
  rintro ⟨⟨gl, pg, cg, Cg⟩, hcut⟩
  replace hcut : SlC 3 1 (.slice pg gl.length cg) gl.length (iV gl) Cg ∧ gl = (jw W i).gone := hcut
  obtain ⟨hs2, hgl2⟩ := hcut
  show Tr _ _ _ ([(1, .int .i64 i), (2, .pointer (some ⟨b2, 0, none⟩)), (4, .pointer (some ⟨b4, 0, none⟩))]) ([(b2, .cells [.int .u32 W.num, .int .u32 W.ver, .int .i64 W.kind, .int .i64 W.size, .int .u32 W.time, .slice (some ⟨ba, 0, none⟩) 1064 1064, .slice (some ⟨bl, 0, none⟩) 32 32, .int .i64 W.sg.at_, .bool W.sg.stale, .int .i64 W.db.at_, .bool W.db.stale, .int .i64 W.self.at_, .bool W.self.stale, .slice pg gl.length cg].toArray 41 (0, 0))] :: [(b4, .cells node0V.toArray 41 (0, 0))] :: [(ba, .cells ((we W.all).flatMap wc ++ []).toArray 125 (0, 0))] :: [(bl, .cells ((qx W.leaves).flatMap wb ++ []).toArray 38 (0, 0))] :: Cg :: F) _ _
  refine Tr.seq <| Tr.region <| q9 (qD rfl) <| q9 (qG rfl rfl) <| q9 (qA rfl) <| q9 (yn (z := .agg (wc Blk.zero).toArray) rfl Tryz.underlying125 rfl (fun _ _ => ⟨_, inferInstance⟩) (fun _ _ h => by cases h)) ?_
  refine q9 (qf (j := i) (off := i * 131) rfl rfl rfl (by omega) (by simp)) ?_
  refine qK (wq (j := i) (p' := Blk.zero) zK rfl rfl rfl (zn hi) rfl (KC _)) <| qB ?_
  rw [show (we W.all).set i Blk.zero = we (upd W.all i Blk.zero) from zP]
  refine QAt.seq <| Tr.seq <| Tr.region <| q9 (qD rfl) <| q9 (qk rfl) <| qK (wX rfl rfl rfl) <| qB <| QAt.seq <| Tr.seq <| Tr.region <| q9 (qA rfl) <| q9 (qw rfl (Yg i (by omega))) <| q9 (qA rfl) <| q9 (qR rfl rfl) <| q9 (qR rfl rfl) <| qF (qV) ?_
  rintro t5 _ ⟨b5, rfl, rfl⟩
  refine qK (wJ (vs := [.int .i64 (w8 i).1, .int .i64 (w8 i).2.1, .int .i64 (w8 i).2.2]) rfl rfl rfl rfl) <| q9 (qC rfl) <| qB <| QAt.seq <| zA (Γ := {pΓ : (zk) // (fun (sg : zk) => sg = (if (w8 i).1 = 1 then ⟨W.sg.at_, true⟩ else W.sg)) pΓ}) (fun g => (fun (sg : zk) => [(2, .pointer (some ⟨b2, 0, none⟩)), (4, .pointer (some ⟨b4, 0, none⟩)), (5, .pointer (some ⟨b5, 0, none⟩))]) g.1) (fun g => (fun (sg : zk) => [(b5, .cells [.int .i64 (w8 i).1, .int .i64 (w8 i).2.1, .int .i64 (w8 i).2.2].toArray 143 (0, 0))] :: [(b2, .cells [.int .u32 W.num, .int .u32 W.ver, .int .i64 W.kind, .int .i64 W.size, .int .u32 W.time, .slice (some ⟨ba, 0, none⟩) 1064 1064, .slice (some ⟨bl, 0, none⟩) 32 32, .int .i64 sg.at_, .bool sg.stale, .int .i64 W.db.at_, .bool W.db.stale, .int .i64 W.self.at_, .bool true, .slice pg gl.length cg].toArray 41 (0, 0))] :: [(b4, .cells node0V.toArray 41 (0, 0))] :: [(ba, .cells ((we (upd W.all i Blk.zero)).flatMap wc ++ []).toArray 125 (0, 0))] :: [(bl, .cells ((qx W.leaves).flatMap wb ++ []).toArray 38 (0, 0))] :: Cg :: F) g.1) ?_ ?_
  ·
   refine Tr.seq <| Tr.region <| q9 (qD rfl) <| q9 (qG rfl rfl) <| q9 (wR rfl rfl) <| qB <| QAt.seq <| qI rfl (fun hc6 => ?_) (fun hc6 => ?_)
   ·
    refine Tr.region <| q9 (qD rfl) <| q9 (qk rfl) <| qK (wX rfl rfl rfl) <| qB <| qO ⟨⟨W.sg.at_, true⟩, ?_⟩ ?_
    · (try dsimp only); rw [if_pos hc6]
    · (try dsimp only); exact qP _
   ·
    refine Tr.skip <| qO ⟨W.sg, ?_⟩ ?_
    · (try dsimp only); rw [if_neg hc6]
    · (try dsimp only); exact qP _
  rintro ⟨sg, hcut⟩
  replace hcut : sg = (if (w8 i).1 = 1 then ⟨W.sg.at_, true⟩ else W.sg) := hcut
  have hsg := hcut
  show Tr _ _ _ ([(2, .pointer (some ⟨b2, 0, none⟩)), (4, .pointer (some ⟨b4, 0, none⟩)), (5, .pointer (some ⟨b5, 0, none⟩))]) ([(b5, .cells [.int .i64 (w8 i).1, .int .i64 (w8 i).2.1, .int .i64 (w8 i).2.2].toArray 143 (0, 0))] :: [(b2, .cells [.int .u32 W.num, .int .u32 W.ver, .int .i64 W.kind, .int .i64 W.size, .int .u32 W.time, .slice (some ⟨ba, 0, none⟩) 1064 1064, .slice (some ⟨bl, 0, none⟩) 32 32, .int .i64 sg.at_, .bool sg.stale, .int .i64 W.db.at_, .bool W.db.stale, .int .i64 W.self.at_, .bool true, .slice pg gl.length cg].toArray 41 (0, 0))] :: [(b4, .cells node0V.toArray 41 (0, 0))] :: [(ba, .cells ((we (upd W.all i Blk.zero)).flatMap wc ++ []).toArray 125 (0, 0))] :: [(bl, .cells ((qx W.leaves).flatMap wb ++ []).toArray 38 (0, 0))] :: Cg :: F) _ _
  refine zA (Γ := {pΓ : (Int → zk) × (zk) // (fun (lvs : Int → zk) (db : zk) => lvs = (if (w8 i).1 = 2 then upd W.leaves (w8 i).2.1 ⟨(W.leaves (w8 i).2.1).at_, true⟩ else W.leaves) ∧ db = (if (w8 i).1 = 2 then ⟨W.db.at_, true⟩ else W.db)) pΓ.1 pΓ.2}) (fun g => (fun (lvs : Int → zk) (db : zk) => [(2, .pointer (some ⟨b2, 0, none⟩)), (4, .pointer (some ⟨b4, 0, none⟩))]) g.1.1 g.1.2) (fun g => (fun (lvs : Int → zk) (db : zk) => [(b2, .cells [.int .u32 W.num, .int .u32 W.ver, .int .i64 W.kind, .int .i64 W.size, .int .u32 W.time, .slice (some ⟨ba, 0, none⟩) 1064 1064, .slice (some ⟨bl, 0, none⟩) 32 32, .int .i64 sg.at_, .bool sg.stale, .int .i64 db.at_, .bool db.stale, .int .i64 W.self.at_, .bool true, .slice pg gl.length cg].toArray 41 (0, 0))] :: [(b4, .cells node0V.toArray 41 (0, 0))] :: [(ba, .cells ((we (upd W.all i Blk.zero)).flatMap wc ++ []).toArray 125 (0, 0))] :: [(bl, .cells ((qx lvs).flatMap wb ++ []).toArray 38 (0, 0))] :: Cg :: F) g.1.1 g.1.2) ?_ ?_
  ·
   refine Tr.seq <| Tr.region <| q9 (qD rfl) <| q9 (qG rfl rfl) <| q9 (wR rfl rfl) <| qB <| QAt.seq <| qI rfl (fun hc8 => ?_) (fun hc8 => ?_)
   ·
    refine Tr.seq ?_
    have hpr := KV (i := i) (by omega) hc8
    obtain ⟨lf, hlf⟩ : ∃ lf : Nat, (w8 i).2.1 = lf := ⟨(w8 i).2.1.toNat, by omega⟩
    refine Tr.region <| q9 (qD rfl) <| q9 (qG rfl rfl) <| q9 (qD rfl) <| q9 (qG rfl rfl) <| q9 (qf (j := lf) (off := lf * 2) rfl rfl hlf (by omega) (by simp)) ?_
    refine q9 (qk rfl) <| qK (y6 (j := lf) (k := 1) (p' := ⟨(W.leaves lf).at_, true⟩) zC rfl rfl (wn (by omega)) rfl rfl rfl) <| qB ?_
    rw [show (qx W.leaves).set lf ⟨(W.leaves lf).at_, true⟩ = qx (upd W.leaves (lf : Int) ⟨(W.leaves lf).at_, true⟩) from zP]
    refine QAt.seq <| Tr.region <| q9 (qD rfl) <| q9 (qk rfl) <| qK (wX rfl rfl rfl) <| qB <| qO ⟨(upd W.leaves (lf : Int) ⟨(W.leaves lf).at_, true⟩, ⟨W.db.at_, true⟩), ?_⟩ ?_
    · (try dsimp only); rw [if_pos hc8, if_pos hc8, hlf]; exact ⟨rfl, rfl⟩
    · (try dsimp only); exact qP _
   ·
    refine Tr.skip <| qO ⟨(W.leaves, W.db), ?_⟩ ?_
    · (try dsimp only); rw [if_neg hc8, if_neg hc8]; exact ⟨rfl, rfl⟩
    · (try dsimp only); exact qP _
  rintro ⟨⟨lvs, db⟩, hcut⟩
  replace hcut : lvs = (if (w8 i).1 = 2 then upd W.leaves (w8 i).2.1 ⟨(W.leaves (w8 i).2.1).at_, true⟩ else W.leaves) ∧ db = (if (w8 i).1 = 2 then ⟨W.db.at_, true⟩ else W.db) := hcut
  obtain ⟨hlv, hdb⟩ := hcut
  show Tr _ _ _ ([(2, .pointer (some ⟨b2, 0, none⟩)), (4, .pointer (some ⟨b4, 0, none⟩))]) ([(b2, .cells [.int .u32 W.num, .int .u32 W.ver, .int .i64 W.kind, .int .i64 W.size, .int .u32 W.time, .slice (some ⟨ba, 0, none⟩) 1064 1064, .slice (some ⟨bl, 0, none⟩) 32 32, .int .i64 sg.at_, .bool sg.stale, .int .i64 db.at_, .bool db.stale, .int .i64 W.self.at_, .bool true, .slice pg gl.length cg].toArray 41 (0, 0))] :: [(b4, .cells node0V.toArray 41 (0, 0))] :: [(ba, .cells ((we (upd W.all i Blk.zero)).flatMap wc ++ []).toArray 125 (0, 0))] :: [(bl, .cells ((qx lvs).flatMap wb ++ []).toArray 38 (0, 0))] :: Cg :: F) _ _
  refine Tr.seq <| Tr.region <| q9 (wE rfl) <| qK (wJ rfl rfl rfl rfl) <| qB <| z8 (L' := [(b4, .cells [.int .u32 W.num, .int .u32 W.ver, .int .i64 W.kind, .int .i64 W.size, .int .u32 W.time, .slice (some ⟨ba, 0, none⟩) 1064 1064, .slice (some ⟨bl, 0, none⟩) 32 32, .int .i64 sg.at_, .bool sg.stale, .int .i64 db.at_, .bool db.stale, .int .i64 W.self.at_, .bool true, .slice pg gl.length cg].toArray 41 (0, 0))] :: ((ba, .cells ((we (upd W.all i Blk.zero)).flatMap wc ++ []).toArray 125 (0, 0)) :: (bl, .cells ((qx lvs).flatMap wb ++ []).toArray 38 (0, 0)) :: Cg) :: F) (fun w hw => wH (by simp) w hw.tail) ?_
  refine QAt.seq <| Tr.ret <| qs (((ba, .cells ((we (upd W.all i Blk.zero)).flatMap wc ++ []).toArray 125 (0, 0)) :: (bl, .cells ((qx lvs).flatMap wb ++ []).toArray 38 (0, 0)) :: Cg) :: F) (.inl rfl) rfl (zB rfl) ?_
  exact ⟨_, _, rfl, ⟨_, Cg, by rw [hsg, hdb]; rfl, by rw [← hgl2]; exact hs2, by rw [hlv]; rfl⟩, rfl⟩
theorem RefC.at {W : RS} {v : List Value} {C : qM} (h : RefC ba bl W v C) : ∃ pg cg Cg, v = k6 W ba bl (.slice pg W.gone.length cg) ∧ SlC 3 1 (.slice pg W.gone.length cg) W.gone.length (iV W.gone) Cg ∧ C = ((ba, .cells ((we W.all).flatMap wc ++ []).toArray 125 (0, 0)) :: (bl, .cells ((qx W.leaves).flatMap wb ++ []).toArray 38 (0, 0)) :: Cg) := by
  obtain ⟨ug, Cg, rfl, hs, rfl⟩ := h
  obtain ⟨pg, cg, rfl⟩ := hs.slice
  exact ⟨pg, cg, Cg, rfl, hs, rfl⟩
theorem RefC.len {W : RS} {v : List Value} {C : qM} (h : RefC ba bl W v C) : v.length = 14 := by
  obtain ⟨ug, Cg, rfl, hs, rfl⟩ := h; rfl
theorem RefC.one {W : RS} {v : List Value} {C : qM} (h : RefC ba bl W v C) : v.all (·.oneCell') = true := by
  obtain ⟨pg, cg, Cg, rfl, hs, rfl⟩ := h.at; rfl
section
variable {P : Program} {N : Nat} {E : Env}
theorem zX {α : Type} {enc : α → List Value} {x : Operand} {t ty sz : TypeId} {b off j k : Nat} {xs : List α} {r : List Value} {e : TypeId} {fr : Nat × Nat} {p : α} {v : Value} [ht : TyScalar P t]
    (he : ∀ x, (enc x).length = sz) (hx : opv E x = some (.pointer (some ⟨b, off, none⟩))) (hm : (b, .cells (xs.flatMap enc ++ r).toArray e fr) ∈ L.flatten) (hj : xs[j]? = some p) (ho : off = j * sz + k) (hv : wG (enc p) k = some v) (hk : Nat.blt k sz = true := by rfl) :
    Op1 P N w0 E L (.load t x) ty v L :=
  W4 hx hm (by
    rw [List.getElem?_toArray, ho, K2 he xs r hj (by simpa [Nat.blt_eq] using hk)]
    rw [wi] at hv; exact hv)
theorem zJ {α : Type} {enc : α → List Value} {x : Operand} {t ty sz : TypeId} {b off j : Nat} {xs : List α} {r : List Value} {e : TypeId} {fr : Nat × Nat} {p : α} [ht : TyAgg P t sz]
    (he : ∀ x, (enc x).length = sz) (hx : opv E x = some (.pointer (some ⟨b, off, none⟩))) (hm : (b, .cells (xs.flatMap enc ++ r).toArray e fr) ∈ L.flatten) (hj : xs[j]? = some p) (ho : off = j * sz) :
    Op1 P N w0 E L (.load t x) ty (.agg (enc p).toArray) L :=
  yZ hx hm (by subst ho; exact QD he xs r hj) (by
    have hlt := (List.getElem?_eq_some_iff.1 hj).1
    have h1 := yy he xs
    have h2 : (j + 1) * sz ≤ xs.length * sz := Nat.mul_le_mul_right _ hlt
    rw [Nat.add_mul] at h2
    simp [ho]; rw [← List.length_flatMap, h1]; omega)
end
theorem RefC.setSg {W : RS} {v : List Value} {C : qM} (h : RefC ba bl W v C) (p : zk) : RefC ba bl { W with sg := p } (v.take 7 ++ wb p ++ v.drop 9) C := by
  obtain ⟨ug, Cg, rfl, hs, rfl⟩ := h
  exact ⟨ug, Cg, rfl, hs, rfl⟩
theorem RefC.setDb {W : RS} {v : List Value} {C : qM} (h : RefC ba bl W v C) (p : zk) : RefC ba bl { W with db := p } (v.take 9 ++ wb p ++ v.drop 11) C := by
  obtain ⟨ug, Cg, rfl, hs, rfl⟩ := h
  exact ⟨ug, Cg, rfl, hs, rfl⟩
def kS (W : RS) (t : Int) : RS := if W.time ≠ t then { W with time := t, self := ⟨W.self.at_, true⟩ } else W
theorem xe (W : RS) (v : List Value) (C : qM) (hw : RefC ba bl W v C) (t : Int) :
    FnT Tryz.prog w0 36 #[.agg v.toArray, .int .u32 t] (C :: F) (fun v L' => ∃ l C', v = .agg l.toArray ∧ RefC ba bl (kS W t) l C' ∧ L' = C' :: F) := by
  obtain ⟨pg, cg, Cg, rfl, hs, hC⟩ := hw.at
  unfold k6
  refine FnT.enter (E0 := [(0, _), (1, _)]) (N := 14) Tryz.func36 rfl rfl rfl rfl ?_
  refine Tr.seq <| Tr.region <| qF (wT rfl) ?_
  rintro t2 _ ⟨b2, rfl, rfl⟩
  refine qF (qV) ?_
  rintro t4 _ ⟨b4, rfl, rfl⟩
  refine qB <| QAt.seq <| Tr.seq <| Tr.seq <| Tr.region <| q9 (qD rfl) <| q9 (qG rfl rfl) <| q9 (qA rfl) <| q9 (wZ rfl rfl) <| qB <| QAt.seq <| qI rfl (fun hc1 => ?_) (fun hc1 => ?_)
  ·
   refine Tr.seq <| Tr.region <| q9 (qA rfl) <| q9 (qD rfl) <| qK (wX rfl rfl rfl) <| qB <| QAt.seq <| Tr.region <| q9 (qD rfl) <| q9 (qk rfl) <| qK (wX rfl rfl rfl) <| qB <| QAt.seq <| Tr.seq <| Tr.region <| q9 (wE rfl) <| qK (wJ rfl rfl rfl rfl) <| qB <| QAt.seq <| Tr.ret <| qs (C :: F) (.inl rfl) rfl (zB rfl) ?_
   first
   | exact ⟨_, C, rfl, by unfold kS; rw [if_pos hc1, hC]; exact ⟨_, Cg, rfl, hs, rfl⟩, rfl⟩
   | exact ⟨_, C, rfl, by unfold kS; rw [if_neg hc1, hC]; exact ⟨_, Cg, rfl, hs, rfl⟩, rfl⟩
  ·
   refine Tr.skip <| QAt.seq <| Tr.seq <| Tr.region <| q9 (wE rfl) <| qK (wJ rfl rfl rfl rfl) <| qB <| QAt.seq <| Tr.ret <| qs (C :: F) (.inl rfl) rfl (zB rfl) ?_
   first
   | exact ⟨_, C, rfl, by unfold kS; rw [if_pos hc1, hC]; exact ⟨_, Cg, rfl, hs, rfl⟩, rfl⟩
   | exact ⟨_, C, rfl, by unfold kS; rw [if_neg hc1, hC]; exact ⟨_, Cg, rfl, hs, rfl⟩, rfl⟩
theorem J4 {K β : Type} [DecidableEq K] (f : K → β) (q : K) (a b : β) : upd (upd f q a) q b = upd f q b := by
  funext k; unfold upd; split <;> rfl
theorem upd_self {K β : Type} [DecidableEq K] (f : K → β) (q : K) : upd f q (f q) = f := by
  funext k; unfold upd; split
  · rename_i e; rw [e]
  · rfl
def Zt (b : Blk) (k : Nat) : Blk := { b with s := b.s.clr k, fresh := true }
def zq (W : RS) (size : Int) : RS := if size < W.size ∧ size % 128 ≠ 0 ∧ (W.all (size / 128)).has = true then { W with all := upd W.all (size / 128) (Zt (W.all (size / 128)) (size % 128).toNat) } else W
def yG (x : RS × Bool) (i : Int) : RS × Bool := if (x.1.all i).has = true then (jw x.1 i, true) else x
def yC (W : RS) (size : Int) : RS × Bool := ((zR 1064).drop (wy size).toNat).foldl yG (W, false)
def wK (w : RS) (k : Int) : RS := if zg w 2 k = true then w else { zm w (w.leaves k) with leaves := upd w.leaves k ⟨0, false⟩ }
def QS (w : RS) : RS := if zg w 1 0 = true then w else { zm w w.sg with sg := ⟨0, false⟩ }
def Zq (w : RS) : RS := if zg w 2 (-1) = true then w else { zm w w.db with db := ⟨0, false⟩ }
def Z9 (x : RS × Bool) : RS := if x.2 = true then Zq (QS ((zR 32).foldl wK x.1)) else x.1
def Wc (W : RS) (size : Int) : RS := if W.size ≠ size then { W with size := size, self := ⟨W.self.at_, true⟩ } else W
def yf (W : RS) (size : Int) : Int × RS :=
  if size < 0 then (1, W) else if 136192 < size then (12, W) else (0, Wc (Z9 (yC (zq W size) size)) size)
theorem zp (W : RS) (p : zk) : (zm W p).gone.length ≤ W.gone.length + 1 := by unfold zm; split <;> simp
theorem holeR_gone (W : RS) (i : Int) : (jw W i).gone.length ≤ W.gone.length + 1 := by unfold jw; dsimp only; split <;> simp
theorem zU (W : RS) (p : zk) : (zm W p).leaves = W.leaves := by unfold zm; split <;> rfl
theorem blk_zero_step (b : Blk) (r t : Nat) (h : r + t < 128) :
    (wc { b with s := ze b.s r (List.replicate t 0) }).set (3 + (r + t) * 1) (.int .u8 0) = wc { b with s := ze b.s r (List.replicate (t + 1) 0) } := by
  have := Xm b r t (List.replicate t 0) 0 (by simp) h (by rw [← List.replicate_succ']; exact ZY _)
  rw [this, ← List.replicate_succ']
theorem yr (W : RS) (v : List Value) (C : qM) (hw : RefC ba bl W v C) (size : Int) (hsz : -9223372036854775808 ≤ size ∧ size ≤ 9223372036854775807) (hgl : W.gone.length ≤ 800000) (hWs : W.size ≤ 136192) :
    FnT Tryz.prog w0 28 #[.agg v.toArray, .int .i64 size] (C :: F) (fun v L' => ∃ l C', v = .tuple #[.agg l.toArray, .int .i64 (yf W size).1] ∧ RefC ba bl (yf W size).2 l C' ∧ L' = C' :: F) := by
  obtain ⟨pg, cg, Cg, rfl, hs, hC⟩ := hw.at
  unfold k6 at hw ⊢
  refine FnT.enter (E0 := [(0, _), (1, _)]) (N := 125) Tryz.func28 rfl rfl rfl rfl ?_
  refine Tr.seq <| Tr.region <| qF (wT rfl) ?_
  rintro t2 _ ⟨b2, rfl, rfl⟩
  refine qF (qV) ?_
  rintro t4 _ ⟨b4, rfl, rfl⟩
  refine q9 (qC rfl) <| qB <| QAt.seq <| Tr.seq <| Tr.seq <| Tr.region <| q9 (qA rfl) <| q9 (qv rfl rfl) <| qB <| QAt.seq <| qI rfl (fun hc1 => ?_) (fun hc1 => ?_)
  ·
   refine Tr.seq <| Tr.region <| q9 (wE rfl) <| qK (wJ rfl rfl rfl rfl) <| q9 (qC rfl) <| qB <| QAt.seq <| Tr.ret <| qe <| wC (C :: F) (.inl rfl) rfl (zB rfl) (qd rfl) ?_
   exact ⟨_, C, by unfold yf; rw [if_pos hc1], by unfold yf; rw [if_pos hc1]; exact hw, rfl⟩
  ·
   refine Tr.skip <| QAt.seq <| Tr.seq <| Tr.seq <| Tr.region <| q9 (qA rfl) <| q9 (zd rfl rfl) <| qB <| QAt.seq <| qI rfl (fun hc3 => ?_) (fun hc3 => ?_)
   ·
    refine Tr.seq <| Tr.region <| q9 (wE rfl) <| qK (wJ rfl rfl rfl rfl) <| q9 (qC rfl) <| qB <| QAt.seq <| Tr.ret <| qe <| wC (C :: F) (.inl rfl) rfl (zB rfl) (qd rfl) ?_
    exact ⟨_, C, by unfold yf; rw [if_neg hc1, if_pos hc3], by unfold yf; rw [if_neg hc1, if_pos hc3]; exact hw, rfl⟩
   ·
    refine Tr.skip <| QAt.seq <| Tr.seq <| Tr.region <| q9 (qA rfl) <| q9 (qw rfl (rblocks_spec size (by omega))) <| q9 (qC rfl) <| qB ?_
    obtain ⟨Q, hQ⟩ : ∃ Q : Nat, size / 128 = Q := ⟨(size / 128).toNat, by omega⟩
    obtain ⟨r, hr⟩ : ∃ r : Nat, size % 128 = r := ⟨(size % 128).toNat, by omega⟩
    refine QAt.seq <| zA (Γ := {pΓ : (RS) × (List Value) × (qM) // (fun (W1 : RS) (v1 : List Value) (C1 : qM) => RefC ba bl W1 v1 C1 ∧ W1 = zq W size ∧ W1.gone.length ≤ 800000) pΓ.1 pΓ.2.1 pΓ.2.2}) (fun g => (fun (W1 : RS) (v1 : List Value) (C1 : qM) => [(1, .int .i64 size), (2, .pointer (some ⟨b2, 0, none⟩)), (4, .pointer (some ⟨b4, 0, none⟩)), (6, .int .i64 (wy size))]) g.1.1 g.1.2.1 g.1.2.2) (fun g => (fun (W1 : RS) (v1 : List Value) (C1 : qM) => [(b2, .cells v1.toArray 41 (0, 0))] :: [(b4, .cells node0V.toArray 41 (0, 0))] :: C1 :: F) g.1.1 g.1.2.1 g.1.2.2) ?_ ?_
    ·
     refine zA (Γ := {pΓ : (Bool) // (fun (b : Bool) => b = true ↔ (size < W.size ∧ size % 128 ≠ 0 ∧ (W.all (size / 128)).has = true)) pΓ}) (fun g => (fun (b : Bool) => [(1, .int .i64 size), (2, .pointer (some ⟨b2, 0, none⟩)), (4, .pointer (some ⟨b4, 0, none⟩)), (6, .int .i64 (wy size)), (36, .bool b)]) g.1) (fun g => (fun (b : Bool) => [(b2, .cells [.int .u32 W.num, .int .u32 W.ver, .int .i64 W.kind, .int .i64 W.size, .int .u32 W.time, .slice (some ⟨ba, 0, none⟩) 1064 1064, .slice (some ⟨bl, 0, none⟩) 32 32, .int .i64 W.sg.at_, .bool W.sg.stale, .int .i64 W.db.at_, .bool W.db.stale, .int .i64 W.self.at_, .bool W.self.stale, .slice pg W.gone.length cg].toArray 41 (0, 0))] :: [(b4, .cells node0V.toArray 41 (0, 0))] :: C :: F) g.1) ?_ ?_
     ·
      refine Tr.region <| q9 (qA rfl) <| q9 (qD rfl) <| q9 (qG rfl rfl) <| q9 (qv rfl rfl) <| q9 (qA rfl) <| qN (s := 23) rfl (fun hg6_4 => ?_) (fun hg6_4 => ?_)
      ·
       refine qE rfl rfl (qA rfl) <| qE rfl rfl (jV rfl rfl (by omega) (by omega)) <| qE rfl rfl (wZ rfl rfl) <| q9 (qT rfl rfl) <| q9 (qA rfl) <| qN (s := 28) rfl (fun hg6_9 => ?_) (fun hg6_9 => ?_)
       ·
        refine qE rfl rfl (qD rfl) <| qE rfl rfl (qG rfl rfl) <| qE rfl rfl (qA rfl) <| qE rfl rfl (km rfl rfl (by omega)) <| qE rfl rfl (qf (j := Q) (off := Q * 131) rfl rfl hQ (by omega) (by simp)) ?_
        refine qE rfl rfl (qk rfl) <| qE rfl rfl (zX (j := Q) (k := 0) (v := .bool (W.all (size / 128)).has) zK rfl (show (ba, Obj.cells ((we W.all).flatMap wc ++ []).toArray 125 (0, 0)) ∈ List.flatten _ by rw [hC]; simp) (zn (by omega)) rfl (by rw [hQ]; rfl)) ?_
        refine q9 (qT rfl rfl) <| qB <| qO ⟨_, ?_⟩ ?_
        · (try dsimp only); first | exact ⟨fun h => ⟨by omega, by omega, h⟩, fun h => h.2.2⟩ | exact ⟨fun h => (by cases h), fun h => by omega⟩
        · (try dsimp only); exact qP _
       ·
        refine qH rfl rfl rfl <| qH rfl rfl rfl <| qH rfl rfl rfl <| qH rfl rfl rfl <| qH rfl rfl rfl <| qH rfl rfl rfl <| qH rfl rfl rfl <| q9 (qL rfl rfl) <| qB <| qO ⟨_, ?_⟩ ?_
        · (try dsimp only); first | exact ⟨fun h => ⟨by omega, by omega, h⟩, fun h => h.2.2⟩ | exact ⟨fun h => (by cases h), fun h => by omega⟩
        · (try dsimp only); exact qP _
      ·
       refine qH rfl rfl rfl <| qH rfl rfl rfl <| qH rfl rfl rfl <| q9 (qL rfl rfl) <| q9 (qA rfl) <| qH rfl rfl rfl <| qH rfl rfl rfl <| qH rfl rfl rfl <| qH rfl rfl rfl <| qH rfl rfl rfl <| qH rfl rfl rfl <| qH rfl rfl rfl <| q9 (qL rfl rfl) <| qB <| qO ⟨_, ?_⟩ ?_
       · (try dsimp only); first | exact ⟨fun h => ⟨by omega, by omega, h⟩, fun h => h.2.2⟩ | exact ⟨fun h => (by cases h), fun h => by omega⟩
       · (try dsimp only); exact qP _
     rintro ⟨b, hcut⟩
     replace hcut : b = true ↔ (size < W.size ∧ size % 128 ≠ 0 ∧ (W.all (size / 128)).has = true) := hcut
     have hb := hcut
     show Tr _ _ _ ([(1, .int .i64 size), (2, .pointer (some ⟨b2, 0, none⟩)), (4, .pointer (some ⟨b4, 0, none⟩)), (6, .int .i64 (wy size)), (36, .bool b)]) ([(b2, .cells [.int .u32 W.num, .int .u32 W.ver, .int .i64 W.kind, .int .i64 W.size, .int .u32 W.time, .slice (some ⟨ba, 0, none⟩) 1064 1064, .slice (some ⟨bl, 0, none⟩) 32 32, .int .i64 W.sg.at_, .bool W.sg.stale, .int .i64 W.db.at_, .bool W.db.stale, .int .i64 W.self.at_, .bool W.self.stale, .slice pg W.gone.length cg].toArray 41 (0, 0))] :: [(b4, .cells node0V.toArray 41 (0, 0))] :: C :: F) _ _
     refine Tr.cond rfl (fun hc5 => ?_) (fun hc5 => ?_)
     ·
      refine Tr.seq <| Tr.seq ?_
      have hc := hb.1 hc5
      refine yW (L' := [(b2, .cells [.int .u32 W.num, .int .u32 W.ver, .int .i64 W.kind, .int .i64 W.size, .int .u32 W.time, .slice (some ⟨ba, 0, none⟩) 1064 1064, .slice (some ⟨bl, 0, none⟩) 32 32, .int .i64 W.sg.at_, .bool W.sg.stale, .int .i64 W.db.at_, .bool W.db.stale, .int .i64 W.self.at_, .bool W.self.stale, .slice pg W.gone.length cg].toArray 41 (0, 0))] :: [(b4, .cells node0V.toArray 41 (0, 0))] :: [(ba, .cells ((we W.all).flatMap wc ++ []).toArray 125 (0, 0))] :: [(bl, .cells ((qx W.leaves).flatMap wb ++ []).toArray 38 (0, 0))] :: Cg :: F) (wH (by rw [hC]; simp)) ?_
      refine Tr.region <| q9 (qA rfl) <| q9 (jV rfl rfl (by omega) (by omega)) <| q9 (qC rfl) <| qB <| z8 (L' := [(b2, .cells [.int .u32 W.num, .int .u32 W.ver, .int .i64 W.kind, .int .i64 W.size, .int .u32 W.time, .slice (some ⟨ba, 0, none⟩) 1064 1064, .slice (some ⟨bl, 0, none⟩) 32 32, .int .i64 W.sg.at_, .bool W.sg.stale, .int .i64 W.db.at_, .bool W.db.stale, .int .i64 W.self.at_, .bool W.self.stale, .slice pg W.gone.length cg].toArray 41 (0, 0))] :: [(b4, .cells node0V.toArray 41 (0, 0))] :: [(ba, .cells ((we (upd W.all (Q : Int) { W.all Q with s := ze (W.all Q).s r (List.replicate 0 0) })).flatMap wc ++ []).toArray 125 (0, 0))] :: [(bl, .cells ((qx W.leaves).flatMap wb ++ []).toArray 38 (0, 0))] :: Cg :: F) (y7 (by rw [List.replicate_zero, Jk _ (by omega)]; rw [show upd W.all (Q : Int) { W.all Q with s := (W.all Q).s } = W.all from upd_self W.all (Q : Int)])) ?_
      refine QAt.seq <| Tr.block <| wB (Γ := {pΓ : (Nat) × (Int) // (fun (t : Nat) (z : Int) => r + t ≤ 128 ∧ z = r + t) pΓ.1 pΓ.2}) (fun g => (fun (t : Nat) (z : Int) => [(1, .int .i64 size), (2, .pointer (some ⟨b2, 0, none⟩)), (4, .pointer (some ⟨b4, 0, none⟩)), (6, .int .i64 (wy size)), (7, .int .i64 z)]) g.1.1 g.1.2) (fun g => (fun (t : Nat) (z : Int) => [(b2, .cells [.int .u32 W.num, .int .u32 W.ver, .int .i64 W.kind, .int .i64 W.size, .int .u32 W.time, .slice (some ⟨ba, 0, none⟩) 1064 1064, .slice (some ⟨bl, 0, none⟩) 32 32, .int .i64 W.sg.at_, .bool W.sg.stale, .int .i64 W.db.at_, .bool W.db.stale, .int .i64 W.self.at_, .bool W.self.stale, .slice pg W.gone.length cg].toArray 41 (0, 0))] :: [(b4, .cells node0V.toArray 41 (0, 0))] :: [(ba, .cells ((we (upd W.all (Q : Int) { W.all Q with s := ze (W.all Q).s r (List.replicate t 0) })).flatMap wc ++ []).toArray 125 (0, 0))] :: [(bl, .cells ((qx W.leaves).flatMap wb ++ []).toArray 38 (0, 0))] :: Cg :: F) g.1.1 g.1.2) (fun g => (fun (t : Nat) (z : Int) => 128 - t) g.1.1 g.1.2) ⟨(0, size % 128), by dsimp only; exact ⟨by omega, by omega⟩⟩ (qP _) ?_
      rintro ⟨⟨t, z⟩, hloop⟩
      replace hloop : r + t ≤ 128 ∧ z = r + t := hloop
      obtain ⟨ht, hz⟩ := hloop
      show Tr _ _ _ ([(1, .int .i64 size), (2, .pointer (some ⟨b2, 0, none⟩)), (4, .pointer (some ⟨b4, 0, none⟩)), (6, .int .i64 (wy size)), (7, .int .i64 z)]) ([(b2, .cells [.int .u32 W.num, .int .u32 W.ver, .int .i64 W.kind, .int .i64 W.size, .int .u32 W.time, .slice (some ⟨ba, 0, none⟩) 1064 1064, .slice (some ⟨bl, 0, none⟩) 32 32, .int .i64 W.sg.at_, .bool W.sg.stale, .int .i64 W.db.at_, .bool W.db.stale, .int .i64 W.self.at_, .bool W.self.stale, .slice pg W.gone.length cg].toArray 41 (0, 0))] :: [(b4, .cells node0V.toArray 41 (0, 0))] :: [(ba, .cells ((we (upd W.all (Q : Int) { W.all Q with s := ze (W.all Q).s r (List.replicate t 0) })).flatMap wc ++ []).toArray 125 (0, 0))] :: [(bl, .cells ((qx W.leaves).flatMap wb ++ []).toArray 38 (0, 0))] :: Cg :: F) _ _
      refine Tr.seq <| Tr.seq <| Tr.region <| q9 (qA rfl) <| q9 (qv rfl rfl) <| qB <| QAt.seq <| qI rfl (fun hc8 => ?_) (fun hc8 => ?_)
      ·
       refine Tr.skip <| QAt.seq <| Tr.seq <| Tr.block <| Tr.region <| q9 (qD rfl) <| q9 (qG rfl rfl) <| q9 (qA rfl) <| q9 (km rfl rfl (by omega)) <| q9 (qA rfl) <| q9 (qf (j := Q) (off := Q * 131) rfl rfl hQ (by omega) (by simp)) ?_
       refine q9 (qk rfl) <| q9 (wO (j := r + t) (off := Q * 131 + 3 + (r + t) * 1) rfl rfl (by omega) (by omega) (by simp)) ?_
       refine qK (y6 (j := Q) (k := 3 + (r + t) * 1) (p' := { W.all Q with s := ze (W.all Q).s r (List.replicate (t + 1) 0) }) zK rfl rfl (by rw [zn (by omega), wx]) (by omega) (blk_zero_step (W.all Q) r t (by omega)) rfl (by rw [Nat.blt_eq]; omega)) ?_
       refine qB <| QAt.block <| QAt.seq <| Tr.region <| q9 (qA rfl) <| q9 (qj rfl rfl (by omega)) <| q9 (qC rfl) <| qB <| qh ⟨(t + 1, _), ?_⟩ ?_ ?_
       · (try dsimp only); exact ⟨by omega, by omega⟩
       · (try dsimp only); omega
       · (try dsimp only); exact y7 (by rw [show ∀ (f : Int → Blk) (b : Blk), (we f).set Q b = we (upd f (Q : Int) b) from fun _ _ => zP, J4])
      ·
       refine Tr.exit <| qX <| qY <| qS <| QAt.seq ?_
       have ht2 : t = 128 - r := by omega
       subst ht2
       refine Tr.region <| q9 (qD rfl) <| q9 (qG rfl rfl) <| q9 (qA rfl) <| q9 (km rfl rfl (by omega)) <| q9 (qf (j := Q) (off := Q * 131) rfl rfl hQ (by omega) (by simp)) ?_
       refine q9 (qk rfl) <| qK (y6 (j := Q) (k := 2) (p := { W.all Q with s := ze (W.all Q).s r (List.replicate (128 - r) 0) }) (p' := Zt (W.all Q) r) zK rfl rfl (by rw [zn (by omega), wx]) rfl rfl rfl) ?_
       refine qB <| qO ⟨({ W with all := upd W.all (Q : Int) (Zt (W.all Q) r) }, [.int .u32 W.num, .int .u32 W.ver, .int .i64 W.kind, .int .i64 W.size, .int .u32 W.time, .slice (some ⟨ba, 0, none⟩) 1064 1064, .slice (some ⟨bl, 0, none⟩) 32 32, .int .i64 W.sg.at_, .bool W.sg.stale, .int .i64 W.db.at_, .bool W.db.stale, .int .i64 W.self.at_, .bool W.self.stale, .slice pg W.gone.length cg], (ba, .cells ((we (upd W.all (Q : Int) (Zt (W.all Q) r))).flatMap wc ++ []).toArray 125 (0, 0)) :: (bl, .cells ((qx W.leaves).flatMap wb ++ []).toArray 38 (0, 0)) :: Cg), ?_⟩ ?_
       · (try dsimp only); exact ⟨⟨_, Cg, rfl, hs, rfl⟩, by unfold zq; rw [if_pos hc, hQ, hr, Int.toNat_natCast], hgl⟩
       · (try dsimp only); exact (by rw [show ∀ (f : Int → Blk) (b : Blk), (we f).set Q b = we (upd f (Q : Int) b) from fun _ _ => zP, J4]; exact wH (by simp))
     ·
      refine Tr.skip <| qO ⟨(W, [.int .u32 W.num, .int .u32 W.ver, .int .i64 W.kind, .int .i64 W.size, .int .u32 W.time, .slice (some ⟨ba, 0, none⟩) 1064 1064, .slice (some ⟨bl, 0, none⟩) 32 32, .int .i64 W.sg.at_, .bool W.sg.stale, .int .i64 W.db.at_, .bool W.db.stale, .int .i64 W.self.at_, .bool W.self.stale, .slice pg W.gone.length cg], C), ?_⟩ ?_
      · (try dsimp only); exact ⟨hw, by unfold zq; rw [if_neg (fun h => by rw [hb.2 h] at hc5; cases hc5)], hgl⟩
      · (try dsimp only); exact qP _
    rintro ⟨⟨W1, v1, C1⟩, hcut⟩
    replace hcut : RefC ba bl W1 v1 C1 ∧ W1 = zq W size ∧ W1.gone.length ≤ 800000 := hcut
    obtain ⟨hw1, hW1, hgl1⟩ := hcut
    show Tr _ _ _ ([(1, .int .i64 size), (2, .pointer (some ⟨b2, 0, none⟩)), (4, .pointer (some ⟨b4, 0, none⟩)), (6, .int .i64 (wy size))]) ([(b2, .cells v1.toArray 41 (0, 0))] :: [(b4, .cells node0V.toArray 41 (0, 0))] :: C1 :: F) _ _
    refine Tr.seq <| Tr.region <| q9 (qC rfl) <| qB <| QAt.seq <| Tr.seq <| Tr.seq ?_
    have hbd := WV (s := size) (by omega)
    obtain ⟨bz, hbz⟩ : ∃ bz : Nat, wy size = bz := ⟨(wy size).toNat, by omega⟩
    have htr : yC W1 size = ((zR 1064).drop bz).foldl yG (W1, false) := by unfold yC; rw [hbz]; rfl
    refine Tr.region <| q9 (qA rfl) <| q9 (qC rfl) <| qB <| QAt.seq <| Tr.block <| wB (Γ := {pΓ : (Nat) × (RS) × (List Value) × (qM) × (Bool) × (Int) // (fun (i : Nat) (w : RS) (v : List Value) (C : qM) (lost : Bool) (z : Int) => i ≤ 1064 ∧ RefC ba bl w v C ∧ w.gone.length ≤ 800000 + i ∧ ((zR 1064).drop i).foldl yG (w, lost) = yC W1 size ∧ z = i) pΓ.1 pΓ.2.1 pΓ.2.2.1 pΓ.2.2.2.1 pΓ.2.2.2.2.1 pΓ.2.2.2.2.2}) (fun g => (fun (i : Nat) (w : RS) (v : List Value) (C : qM) (lost : Bool) (z : Int) => [(1, .int .i64 size), (2, .pointer (some ⟨b2, 0, none⟩)), (4, .pointer (some ⟨b4, 0, none⟩)), (8, .bool lost), (9, .int .i64 z)]) g.1.1 g.1.2.1 g.1.2.2.1 g.1.2.2.2.1 g.1.2.2.2.2.1 g.1.2.2.2.2.2) (fun g => (fun (i : Nat) (w : RS) (v : List Value) (C : qM) (lost : Bool) (z : Int) => [(b2, .cells v.toArray 41 (0, 0))] :: [(b4, .cells node0V.toArray 41 (0, 0))] :: C :: F) g.1.1 g.1.2.1 g.1.2.2.1 g.1.2.2.2.1 g.1.2.2.2.2.1 g.1.2.2.2.2.2) (fun g => (fun (i : Nat) (w : RS) (v : List Value) (C : qM) (lost : Bool) (z : Int) => 1064 - i) g.1.1 g.1.2.1 g.1.2.2.1 g.1.2.2.2.1 g.1.2.2.2.2.1 g.1.2.2.2.2.2) ⟨(bz, W1, v1, C1, false, wy size), by dsimp only; exact ⟨by omega, hw1, by omega, htr.symm, hbz⟩⟩ (qP _) ?_
    rintro ⟨⟨i, w, v, C, lost, z⟩, hloop⟩
    replace hloop : i ≤ 1064 ∧ RefC ba bl w v C ∧ w.gone.length ≤ 800000 + i ∧ ((zR 1064).drop i).foldl yG (w, lost) = yC W1 size ∧ z = i := hloop
    obtain ⟨hi, hR, hglw, hfold, hz⟩ := hloop
    show Tr _ _ _ ([(1, .int .i64 size), (2, .pointer (some ⟨b2, 0, none⟩)), (4, .pointer (some ⟨b4, 0, none⟩)), (8, .bool lost), (9, .int .i64 z)]) ([(b2, .cells v.toArray 41 (0, 0))] :: [(b4, .cells node0V.toArray 41 (0, 0))] :: C :: F) _ _
    refine Tr.seq <| Tr.seq <| Tr.region <| q9 (qA rfl) <| q9 (qv rfl rfl) <| qB <| QAt.seq <| qI rfl (fun hc14 => ?_) (fun hc14 => ?_)
    ·
     refine Tr.skip <| QAt.seq <| Tr.seq <| Tr.block <| Tr.seq ?_
     subst hz
     obtain ⟨pg', cg', Cg', hv, hs', hC'⟩ := hR.at
     rw [yo (ku (by omega)), List.foldl_cons, yG] at hfold
     refine Tr.region <| q9 (qD rfl) <| q9 (qG rfl (show wG v 5 = some (.slice (some ⟨ba, 0, none⟩) 1064 1064) by rw [hv]; rfl)) <| q9 (qA rfl) <| q9 (qf (j := i) (off := i * 131) rfl rfl rfl (by omega) (by simp)) ?_
     refine q9 (qk rfl) <| q9 (zX (j := i) (k := 0) (v := .bool (w.all i).has) zK rfl (show (ba, Obj.cells ((we w.all).flatMap wc ++ []).toArray 125 (0, 0)) ∈ List.flatten _ by rw [hC']; simp) (zn (by omega)) rfl rfl) <| qB <| QAt.seq <| Tr.cond rfl (fun hc16 => ?_) (fun hc16 => ?_)
     ·
      refine Tr.seq <| Tr.region <| q9 (w7 rfl hR.len) <| q9 (qA rfl) <| qF (qn rfl (wM (C) (rhole_ok w v C hR i (by omega) (by omega)))) ?_
      rintro t70 _ ⟨l', C'', rfl, hR', rfl⟩
      refine qK (qW rfl rfl hR.len hR'.len hR'.one) <| qB <| QAt.seq <| Tr.region <| q9 (qC rfl) <| qB <| QAt.block <| QAt.seq <| Tr.region <| q9 (qA rfl) <| q9 (qj rfl rfl (by omega)) <| q9 (qC rfl) <| qB <| qh ⟨(i + 1, jw w i, l', C'', true, _), ?_⟩ ?_ ?_
      · (try dsimp only); rw [if_pos hc16] at hfold; exact ⟨by omega, hR', by have := holeR_gone w i; omega, hfold, by omega⟩
      · (try dsimp only); omega
      · (try dsimp only); exact qP _
     ·
      refine Tr.skip <| QAt.block <| QAt.seq <| Tr.region <| q9 (qA rfl) <| q9 (qj rfl rfl (by omega)) <| q9 (qC rfl) <| qB <| qh ⟨(i + 1, w, v, C, lost, _), ?_⟩ ?_ ?_
      · (try dsimp only); rw [if_neg (by rw [hc16]; simp)] at hfold; exact ⟨by omega, hR, by omega, hfold, by omega⟩
      · (try dsimp only); omega
      · (try dsimp only); exact qP _
    ·
     refine Tr.exit <| qX <| qY <| qS <| QAt.seq <| zA (Γ := {pΓ : (RS) × (List Value) × (qM) // (fun (w2 : RS) (v2 : List Value) (C2 : qM) => RefC ba bl w2 v2 C2 ∧ w2 = Z9 (yC W1 size)) pΓ.1 pΓ.2.1 pΓ.2.2}) (fun g => (fun (w2 : RS) (v2 : List Value) (C2 : qM) => [(1, .int .i64 size), (2, .pointer (some ⟨b2, 0, none⟩)), (4, .pointer (some ⟨b4, 0, none⟩))]) g.1.1 g.1.2.1 g.1.2.2) (fun g => (fun (w2 : RS) (v2 : List Value) (C2 : qM) => [(b2, .cells v2.toArray 41 (0, 0))] :: [(b4, .cells node0V.toArray 41 (0, 0))] :: C2 :: F) g.1.1 g.1.2.1 g.1.2.2) ?_ ?_
     ·
      refine Tr.seq ?_
      rw [List.drop_of_length_le (by rw [jj]; omega), List.foldl_nil] at hfold
      refine Tr.region <| q9 (qA rfl) <| qB <| QAt.seq <| Tr.cond rfl (fun hc19 => ?_) (fun hc19 => ?_)
      ·
       refine Tr.seq <| Tr.seq <| Tr.region <| q9 (qC rfl) <| qB <| QAt.seq <| Tr.block <| wB (Γ := {pΓ : (Nat) × (RS) × (List Value) × (qM) × (Int) // (fun (k : Nat) (w' : RS) (v : List Value) (C : qM) (z : Int) => k ≤ 32 ∧ RefC ba bl w' v C ∧ w'.gone.length ≤ 802000 + k ∧ ((zR 32).drop k).foldl wK w' = (zR 32).foldl wK w ∧ z = k) pΓ.1 pΓ.2.1 pΓ.2.2.1 pΓ.2.2.2.1 pΓ.2.2.2.2}) (fun g => (fun (k : Nat) (w' : RS) (v : List Value) (C : qM) (z : Int) => [(1, .int .i64 size), (2, .pointer (some ⟨b2, 0, none⟩)), (4, .pointer (some ⟨b4, 0, none⟩)), (10, .int .i64 z)]) g.1.1 g.1.2.1 g.1.2.2.1 g.1.2.2.2.1 g.1.2.2.2.2) (fun g => (fun (k : Nat) (w' : RS) (v : List Value) (C : qM) (z : Int) => [(b2, .cells v.toArray 41 (0, 0))] :: [(b4, .cells node0V.toArray 41 (0, 0))] :: C :: F) g.1.1 g.1.2.1 g.1.2.2.1 g.1.2.2.2.1 g.1.2.2.2.2) (fun g => (fun (k : Nat) (w' : RS) (v : List Value) (C : qM) (z : Int) => 32 - k) g.1.1 g.1.2.1 g.1.2.2.1 g.1.2.2.2.1 g.1.2.2.2.2) ⟨(0, w, v, C, 0), by dsimp only; exact ⟨by omega, hR, by omega, rfl, rfl⟩⟩ (qP _) ?_
       rintro ⟨⟨k, w', v, C, z⟩, hloop⟩
       replace hloop : k ≤ 32 ∧ RefC ba bl w' v C ∧ w'.gone.length ≤ 802000 + k ∧ ((zR 32).drop k).foldl wK w' = (zR 32).foldl wK w ∧ z = k := hloop
       obtain ⟨hk, hR2, hgl2, hfold2, hz2⟩ := hloop
       show Tr _ _ _ ([(1, .int .i64 size), (2, .pointer (some ⟨b2, 0, none⟩)), (4, .pointer (some ⟨b4, 0, none⟩)), (10, .int .i64 z)]) ([(b2, .cells v.toArray 41 (0, 0))] :: [(b4, .cells node0V.toArray 41 (0, 0))] :: C :: F) _ _
       refine Tr.seq <| Tr.seq <| Tr.region <| q9 (qA rfl) <| q9 (qv rfl rfl) <| qB <| QAt.seq <| qI rfl (fun hc21 => ?_) (fun hc21 => ?_)
       ·
        refine Tr.skip <| QAt.seq <| zA (Γ := {pΓ : (RS) × (List Value) × (qM) // (fun (w3 : RS) (v3 : List Value) (C3 : qM) => RefC ba bl w3 v3 C3 ∧ w3 = wK w' k ∧ w3.gone.length ≤ 802001 + k) pΓ.1 pΓ.2.1 pΓ.2.2}) (fun g => (fun (w3 : RS) (v3 : List Value) (C3 : qM) => [(1, .int .i64 size), (2, .pointer (some ⟨b2, 0, none⟩)), (4, .pointer (some ⟨b4, 0, none⟩)), (10, .int .i64 k)]) g.1.1 g.1.2.1 g.1.2.2) (fun g => (fun (w3 : RS) (v3 : List Value) (C3 : qM) => [(b2, .cells v3.toArray 41 (0, 0))] :: [(b4, .cells node0V.toArray 41 (0, 0))] :: C3 :: F) g.1.1 g.1.2.1 g.1.2.2) ?_ ?_
        ·
         refine Tr.block <| Tr.seq ?_
         subst hz2
         obtain ⟨pg', cg', Cg', hv, hs', hC'⟩ := hR2.at
         rw [yo (ku (by omega)), List.foldl_cons, wK] at hfold2
         refine Tr.region <| q9 (w7 rfl hR2.len) <| q9 (qA rfl) <| q9 (qw rfl (zM (C) (kr w' v C hR2 2 k))) <| q9 (kM rfl) <| qB <| QAt.seq <| Tr.cond rfl (fun hc23 => ?_) (fun hc23 => ?_)
         ·
          refine yL qm (show TrS _ _ _ _ [false, false, false, false, false, false, false, false, false, false, false, false, false, false, false, false] _ _ _ from ?_)
          refine TrS.take 0 rfl rfl (by kernel_rfl) rfl (wY rfl) ?_
          refine TrS.take 2 rfl rfl (by kernel_rfl) rfl (w6 rfl) ?_
          refine TrS.take 4 rfl rfl (by kernel_rfl) rfl (wY rfl) ?_
          refine TrS.take 6 rfl rfl (by kernel_rfl) rfl (w6 rfl) ?_
          refine xM (i := 1) (j := 3) (k := 5) (by kernel_rfl) rfl ?_ ?_ ?_
          ·
           refine qQ rfl rfl rfl (qG rfl (show wG v 6 = some (.slice (some ⟨bl, 0, none⟩) 32 32) by rw [hv]; rfl)) <| wg (i := 3) (j := 5) (by kernel_rfl) rfl ?_ ?_
           ·
            refine qQ rfl rfl rfl (w7 rfl hR2.len) <| TrS.one (i := 5) (by kernel_rfl) rfl ?_
            refine qQ rfl rfl rfl (qG rfl (show wG v 6 = some (.slice (some ⟨bl, 0, none⟩) 32 32) by rw [hv]; rfl)) <| TrS.take 7 rfl rfl (by kernel_rfl) rfl (wU (j := k) (off := k * 2) rfl rfl rfl (by omega) (by simp)) ?_
            refine TrS.one (i := 8) (by kernel_rfl) rfl ?_
            refine qQ rfl rfl rfl (zJ (j := k) zC rfl (show (bl, Obj.cells ((qx w'.leaves).flatMap wb ++ []).toArray 38 (0, 0)) ∈ List.flatten _ by rw [hC']; simp) (wn (by omega)) rfl) <| TrS.one (i := 9) (by kernel_rfl) rfl ?_
            refine qp rfl rfl rfl (qn rfl (wM (C) (yN w' v C hR2 (w'.leaves k) (by omega)))) ?_
            rintro t90 _ ⟨l', C'', rfl, hR', rfl⟩
            refine TrS.take 10 rfl rfl (by kernel_rfl) rfl (w6 rfl) ?_
            refine TrS.take 11 rfl rfl (by kernel_rfl) rfl (qU rfl rfl) ?_
            refine TrS.take 12 rfl rfl (by kernel_rfl) rfl (qU rfl rfl) ?_
            refine TrS.one (i := 13) (by kernel_rfl) rfl ?_
            refine w9 rfl rfl rfl (qW rfl rfl hR2.len hR'.len hR'.one) ?_
            obtain ⟨pg2, cg2, Cg2, hv2, hs2, hC2⟩ := hR'.at
            rw [zU] at hC2
            refine kO (L' := [(b2, .cells l'.toArray 41 (0, 0))] :: [(b4, .cells node0V.toArray 41 (0, 0))] :: [(ba, .cells ((we (zm w' (w'.leaves k)).all).flatMap wc ++ []).toArray 125 (0, 0))] :: [(bl, .cells ((qx w'.leaves).flatMap wb ++ []).toArray 38 (0, 0))] :: Cg2 :: F) (by rw [hC2]; exact (yI (by intro f; simp only [List.flatten_cons, List.flatten_nil, List.append_nil, List.countP_append, List.countP_cons, List.countP_nil]; omega))) ?_
            refine TrS.take 14 rfl rfl (by kernel_rfl) rfl (wU (j := k) (off := k * 2) rfl rfl rfl (by omega) (by simp)) ?_
            refine TrS.one (i := 15) (by kernel_rfl) rfl ?_
            refine w9 rfl rfl rfl (wq (j := k) (p' := ⟨0, false⟩) zC rfl rfl rfl (wn (by omega)) rfl rfl) <| qy (by kernel_rfl) ?_
            refine QAt.block <| qO ⟨(wK w' k, l', (ba, .cells ((we (zm w' (w'.leaves k)).all).flatMap wc ++ []).toArray 125 (0, 0)) :: (bl, .cells ((qx (upd w'.leaves k ⟨0, false⟩)).flatMap wb ++ []).toArray 38 (0, 0)) :: Cg2), ?_⟩ ?_
            ·
             try dsimp only
             have hkf : ¬ zg w' 2 k = true := by simpa using hc23
             refine ⟨?_, rfl, ?_⟩
             · unfold wK; rw [if_neg hkf]; exact ⟨_, Cg2, hv2, hs2, rfl⟩
             · unfold wK; rw [if_neg hkf]; have := zp w' (w'.leaves k); dsimp only; omega
            · (try dsimp only); exact (by rw [show ∀ (f : Int → zk) (b : zk), (qx f).set k b = qx (upd f (k : Int) b) from fun _ _ => zP]; exact wH (by simp))
           ·
            refine qQ rfl rfl rfl (qG rfl (show wG v 6 = some (.slice (some ⟨bl, 0, none⟩) 32 32) by rw [hv]; rfl)) <| TrS.take 7 rfl rfl (by kernel_rfl) rfl (wU (j := k) (off := k * 2) rfl rfl rfl (by omega) (by simp)) ?_
            refine wg (i := 3) (j := 8) (by kernel_rfl) rfl ?_ ?_
            ·
             refine qQ rfl rfl rfl (w7 rfl hR2.len) <| TrS.one (i := 8) (by kernel_rfl) rfl ?_
             refine qQ rfl rfl rfl (zJ (j := k) zC rfl (show (bl, Obj.cells ((qx w'.leaves).flatMap wb ++ []).toArray 38 (0, 0)) ∈ List.flatten _ by rw [hC']; simp) (wn (by omega)) rfl) <| TrS.one (i := 9) (by kernel_rfl) rfl ?_
             refine qp rfl rfl rfl (qn rfl (wM (C) (yN w' v C hR2 (w'.leaves k) (by omega)))) ?_
             rintro t90 _ ⟨l', C'', rfl, hR', rfl⟩
             refine TrS.take 10 rfl rfl (by kernel_rfl) rfl (w6 rfl) ?_
             refine TrS.take 11 rfl rfl (by kernel_rfl) rfl (qU rfl rfl) ?_
             refine TrS.take 12 rfl rfl (by kernel_rfl) rfl (qU rfl rfl) ?_
             refine TrS.one (i := 13) (by kernel_rfl) rfl ?_
             refine w9 rfl rfl rfl (qW rfl rfl hR2.len hR'.len hR'.one) ?_
             obtain ⟨pg2, cg2, Cg2, hv2, hs2, hC2⟩ := hR'.at
             rw [zU] at hC2
             refine kO (L' := [(b2, .cells l'.toArray 41 (0, 0))] :: [(b4, .cells node0V.toArray 41 (0, 0))] :: [(ba, .cells ((we (zm w' (w'.leaves k)).all).flatMap wc ++ []).toArray 125 (0, 0))] :: [(bl, .cells ((qx w'.leaves).flatMap wb ++ []).toArray 38 (0, 0))] :: Cg2 :: F) (by rw [hC2]; exact (yI (by intro f; simp only [List.flatten_cons, List.flatten_nil, List.append_nil, List.countP_append, List.countP_cons, List.countP_nil]; omega))) ?_
             refine TrS.take 14 rfl rfl (by kernel_rfl) rfl (wU (j := k) (off := k * 2) rfl rfl rfl (by omega) (by simp)) ?_
             refine TrS.one (i := 15) (by kernel_rfl) rfl ?_
             refine w9 rfl rfl rfl (wq (j := k) (p' := ⟨0, false⟩) zC rfl rfl rfl (wn (by omega)) rfl rfl) <| qy (by kernel_rfl) ?_
             refine QAt.block <| qO ⟨(wK w' k, l', (ba, .cells ((we (zm w' (w'.leaves k)).all).flatMap wc ++ []).toArray 125 (0, 0)) :: (bl, .cells ((qx (upd w'.leaves k ⟨0, false⟩)).flatMap wb ++ []).toArray 38 (0, 0)) :: Cg2), ?_⟩ ?_
             ·
              try dsimp only
              have hkf : ¬ zg w' 2 k = true := by simpa using hc23
              refine ⟨?_, rfl, ?_⟩
              · unfold wK; rw [if_neg hkf]; exact ⟨_, Cg2, hv2, hs2, rfl⟩
              · unfold wK; rw [if_neg hkf]; have := zp w' (w'.leaves k); dsimp only; omega
             · (try dsimp only); exact (by rw [show ∀ (f : Int → zk) (b : zk), (qx f).set k b = qx (upd f (k : Int) b) from fun _ _ => zP]; exact wH (by simp))
            ·
             refine qQ rfl rfl rfl (zJ (j := k) zC rfl (show (bl, Obj.cells ((qx w'.leaves).flatMap wb ++ []).toArray 38 (0, 0)) ∈ List.flatten _ by rw [hC']; simp) (wn (by omega)) rfl) <| TrS.one (i := 3) (by kernel_rfl) rfl ?_
             refine qQ rfl rfl rfl (w7 rfl hR2.len) <| TrS.one (i := 9) (by kernel_rfl) rfl ?_
             refine qp rfl rfl rfl (qn rfl (wM (C) (yN w' v C hR2 (w'.leaves k) (by omega)))) ?_
             rintro t90 _ ⟨l', C'', rfl, hR', rfl⟩
             refine TrS.take 10 rfl rfl (by kernel_rfl) rfl (w6 rfl) ?_
             refine TrS.take 11 rfl rfl (by kernel_rfl) rfl (qU rfl rfl) ?_
             refine TrS.take 12 rfl rfl (by kernel_rfl) rfl (qU rfl rfl) ?_
             refine TrS.one (i := 13) (by kernel_rfl) rfl ?_
             refine w9 rfl rfl rfl (qW rfl rfl hR2.len hR'.len hR'.one) ?_
             obtain ⟨pg2, cg2, Cg2, hv2, hs2, hC2⟩ := hR'.at
             rw [zU] at hC2
             refine kO (L' := [(b2, .cells l'.toArray 41 (0, 0))] :: [(b4, .cells node0V.toArray 41 (0, 0))] :: [(ba, .cells ((we (zm w' (w'.leaves k)).all).flatMap wc ++ []).toArray 125 (0, 0))] :: [(bl, .cells ((qx w'.leaves).flatMap wb ++ []).toArray 38 (0, 0))] :: Cg2 :: F) (by rw [hC2]; exact (yI (by intro f; simp only [List.flatten_cons, List.flatten_nil, List.append_nil, List.countP_append, List.countP_cons, List.countP_nil]; omega))) ?_
             refine TrS.take 14 rfl rfl (by kernel_rfl) rfl (wU (j := k) (off := k * 2) rfl rfl rfl (by omega) (by simp)) ?_
             refine TrS.one (i := 15) (by kernel_rfl) rfl ?_
             refine w9 rfl rfl rfl (wq (j := k) (p' := ⟨0, false⟩) zC rfl rfl rfl (wn (by omega)) rfl rfl) <| qy (by kernel_rfl) ?_
             refine QAt.block <| qO ⟨(wK w' k, l', (ba, .cells ((we (zm w' (w'.leaves k)).all).flatMap wc ++ []).toArray 125 (0, 0)) :: (bl, .cells ((qx (upd w'.leaves k ⟨0, false⟩)).flatMap wb ++ []).toArray 38 (0, 0)) :: Cg2), ?_⟩ ?_
             ·
              try dsimp only
              have hkf : ¬ zg w' 2 k = true := by simpa using hc23
              refine ⟨?_, rfl, ?_⟩
              · unfold wK; rw [if_neg hkf]; exact ⟨_, Cg2, hv2, hs2, rfl⟩
              · unfold wK; rw [if_neg hkf]; have := zp w' (w'.leaves k); dsimp only; omega
             · (try dsimp only); exact (by rw [show ∀ (f : Int → zk) (b : zk), (qx f).set k b = qx (upd f (k : Int) b) from fun _ _ => zP]; exact wH (by simp))
          ·
           refine qQ rfl rfl rfl (w7 rfl hR2.len) <| wg (i := 1) (j := 5) (by kernel_rfl) rfl ?_ ?_
           ·
            refine qQ rfl rfl rfl (qG rfl (show wG v 6 = some (.slice (some ⟨bl, 0, none⟩) 32 32) by rw [hv]; rfl)) <| TrS.one (i := 5) (by kernel_rfl) rfl ?_
            refine qQ rfl rfl rfl (qG rfl (show wG v 6 = some (.slice (some ⟨bl, 0, none⟩) 32 32) by rw [hv]; rfl)) <| TrS.take 7 rfl rfl (by kernel_rfl) rfl (wU (j := k) (off := k * 2) rfl rfl rfl (by omega) (by simp)) ?_
            refine TrS.one (i := 8) (by kernel_rfl) rfl ?_
            refine qQ rfl rfl rfl (zJ (j := k) zC rfl (show (bl, Obj.cells ((qx w'.leaves).flatMap wb ++ []).toArray 38 (0, 0)) ∈ List.flatten _ by rw [hC']; simp) (wn (by omega)) rfl) <| TrS.one (i := 9) (by kernel_rfl) rfl ?_
            refine qp rfl rfl rfl (qn rfl (wM (C) (yN w' v C hR2 (w'.leaves k) (by omega)))) ?_
            rintro t90 _ ⟨l', C'', rfl, hR', rfl⟩
            refine TrS.take 10 rfl rfl (by kernel_rfl) rfl (w6 rfl) ?_
            refine TrS.take 11 rfl rfl (by kernel_rfl) rfl (qU rfl rfl) ?_
            refine TrS.take 12 rfl rfl (by kernel_rfl) rfl (qU rfl rfl) ?_
            refine TrS.one (i := 13) (by kernel_rfl) rfl ?_
            refine w9 rfl rfl rfl (qW rfl rfl hR2.len hR'.len hR'.one) ?_
            obtain ⟨pg2, cg2, Cg2, hv2, hs2, hC2⟩ := hR'.at
            rw [zU] at hC2
            refine kO (L' := [(b2, .cells l'.toArray 41 (0, 0))] :: [(b4, .cells node0V.toArray 41 (0, 0))] :: [(ba, .cells ((we (zm w' (w'.leaves k)).all).flatMap wc ++ []).toArray 125 (0, 0))] :: [(bl, .cells ((qx w'.leaves).flatMap wb ++ []).toArray 38 (0, 0))] :: Cg2 :: F) (by rw [hC2]; exact (yI (by intro f; simp only [List.flatten_cons, List.flatten_nil, List.append_nil, List.countP_append, List.countP_cons, List.countP_nil]; omega))) ?_
            refine TrS.take 14 rfl rfl (by kernel_rfl) rfl (wU (j := k) (off := k * 2) rfl rfl rfl (by omega) (by simp)) ?_
            refine TrS.one (i := 15) (by kernel_rfl) rfl ?_
            refine w9 rfl rfl rfl (wq (j := k) (p' := ⟨0, false⟩) zC rfl rfl rfl (wn (by omega)) rfl rfl) <| qy (by kernel_rfl) ?_
            refine QAt.block <| qO ⟨(wK w' k, l', (ba, .cells ((we (zm w' (w'.leaves k)).all).flatMap wc ++ []).toArray 125 (0, 0)) :: (bl, .cells ((qx (upd w'.leaves k ⟨0, false⟩)).flatMap wb ++ []).toArray 38 (0, 0)) :: Cg2), ?_⟩ ?_
            ·
             try dsimp only
             have hkf : ¬ zg w' 2 k = true := by simpa using hc23
             refine ⟨?_, rfl, ?_⟩
             · unfold wK; rw [if_neg hkf]; exact ⟨_, Cg2, hv2, hs2, rfl⟩
             · unfold wK; rw [if_neg hkf]; have := zp w' (w'.leaves k); dsimp only; omega
            · (try dsimp only); exact (by rw [show ∀ (f : Int → zk) (b : zk), (qx f).set k b = qx (upd f (k : Int) b) from fun _ _ => zP]; exact wH (by simp))
           ·
            refine qQ rfl rfl rfl (qG rfl (show wG v 6 = some (.slice (some ⟨bl, 0, none⟩) 32 32) by rw [hv]; rfl)) <| TrS.take 7 rfl rfl (by kernel_rfl) rfl (wU (j := k) (off := k * 2) rfl rfl rfl (by omega) (by simp)) ?_
            refine wg (i := 1) (j := 8) (by kernel_rfl) rfl ?_ ?_
            ·
             refine qQ rfl rfl rfl (qG rfl (show wG v 6 = some (.slice (some ⟨bl, 0, none⟩) 32 32) by rw [hv]; rfl)) <| TrS.one (i := 8) (by kernel_rfl) rfl ?_
             refine qQ rfl rfl rfl (zJ (j := k) zC rfl (show (bl, Obj.cells ((qx w'.leaves).flatMap wb ++ []).toArray 38 (0, 0)) ∈ List.flatten _ by rw [hC']; simp) (wn (by omega)) rfl) <| TrS.one (i := 9) (by kernel_rfl) rfl ?_
             refine qp rfl rfl rfl (qn rfl (wM (C) (yN w' v C hR2 (w'.leaves k) (by omega)))) ?_
             rintro t90 _ ⟨l', C'', rfl, hR', rfl⟩
             refine TrS.take 10 rfl rfl (by kernel_rfl) rfl (w6 rfl) ?_
             refine TrS.take 11 rfl rfl (by kernel_rfl) rfl (qU rfl rfl) ?_
             refine TrS.take 12 rfl rfl (by kernel_rfl) rfl (qU rfl rfl) ?_
             refine TrS.one (i := 13) (by kernel_rfl) rfl ?_
             refine w9 rfl rfl rfl (qW rfl rfl hR2.len hR'.len hR'.one) ?_
             obtain ⟨pg2, cg2, Cg2, hv2, hs2, hC2⟩ := hR'.at
             rw [zU] at hC2
             refine kO (L' := [(b2, .cells l'.toArray 41 (0, 0))] :: [(b4, .cells node0V.toArray 41 (0, 0))] :: [(ba, .cells ((we (zm w' (w'.leaves k)).all).flatMap wc ++ []).toArray 125 (0, 0))] :: [(bl, .cells ((qx w'.leaves).flatMap wb ++ []).toArray 38 (0, 0))] :: Cg2 :: F) (by rw [hC2]; exact (yI (by intro f; simp only [List.flatten_cons, List.flatten_nil, List.append_nil, List.countP_append, List.countP_cons, List.countP_nil]; omega))) ?_
             refine TrS.take 14 rfl rfl (by kernel_rfl) rfl (wU (j := k) (off := k * 2) rfl rfl rfl (by omega) (by simp)) ?_
             refine TrS.one (i := 15) (by kernel_rfl) rfl ?_
             refine w9 rfl rfl rfl (wq (j := k) (p' := ⟨0, false⟩) zC rfl rfl rfl (wn (by omega)) rfl rfl) <| qy (by kernel_rfl) ?_
             refine QAt.block <| qO ⟨(wK w' k, l', (ba, .cells ((we (zm w' (w'.leaves k)).all).flatMap wc ++ []).toArray 125 (0, 0)) :: (bl, .cells ((qx (upd w'.leaves k ⟨0, false⟩)).flatMap wb ++ []).toArray 38 (0, 0)) :: Cg2), ?_⟩ ?_
             ·
              try dsimp only
              have hkf : ¬ zg w' 2 k = true := by simpa using hc23
              refine ⟨?_, rfl, ?_⟩
              · unfold wK; rw [if_neg hkf]; exact ⟨_, Cg2, hv2, hs2, rfl⟩
              · unfold wK; rw [if_neg hkf]; have := zp w' (w'.leaves k); dsimp only; omega
             · (try dsimp only); exact (by rw [show ∀ (f : Int → zk) (b : zk), (qx f).set k b = qx (upd f (k : Int) b) from fun _ _ => zP]; exact wH (by simp))
            ·
             refine qQ rfl rfl rfl (zJ (j := k) zC rfl (show (bl, Obj.cells ((qx w'.leaves).flatMap wb ++ []).toArray 38 (0, 0)) ∈ List.flatten _ by rw [hC']; simp) (wn (by omega)) rfl) <| wg (i := 1) (j := 9) (by kernel_rfl) rfl ?_ ?_
             ·
              refine qQ rfl rfl rfl (qG rfl (show wG v 6 = some (.slice (some ⟨bl, 0, none⟩) 32 32) by rw [hv]; rfl)) <| TrS.one (i := 9) (by kernel_rfl) rfl ?_
              refine qp rfl rfl rfl (qn rfl (wM (C) (yN w' v C hR2 (w'.leaves k) (by omega)))) ?_
              rintro t90 _ ⟨l', C'', rfl, hR', rfl⟩
              refine TrS.take 10 rfl rfl (by kernel_rfl) rfl (w6 rfl) ?_
              refine TrS.take 11 rfl rfl (by kernel_rfl) rfl (qU rfl rfl) ?_
              refine TrS.take 12 rfl rfl (by kernel_rfl) rfl (qU rfl rfl) ?_
              refine TrS.one (i := 13) (by kernel_rfl) rfl ?_
              refine w9 rfl rfl rfl (qW rfl rfl hR2.len hR'.len hR'.one) ?_
              obtain ⟨pg2, cg2, Cg2, hv2, hs2, hC2⟩ := hR'.at
              rw [zU] at hC2
              refine kO (L' := [(b2, .cells l'.toArray 41 (0, 0))] :: [(b4, .cells node0V.toArray 41 (0, 0))] :: [(ba, .cells ((we (zm w' (w'.leaves k)).all).flatMap wc ++ []).toArray 125 (0, 0))] :: [(bl, .cells ((qx w'.leaves).flatMap wb ++ []).toArray 38 (0, 0))] :: Cg2 :: F) (by rw [hC2]; exact (yI (by intro f; simp only [List.flatten_cons, List.flatten_nil, List.append_nil, List.countP_append, List.countP_cons, List.countP_nil]; omega))) ?_
              refine TrS.take 14 rfl rfl (by kernel_rfl) rfl (wU (j := k) (off := k * 2) rfl rfl rfl (by omega) (by simp)) ?_
              refine TrS.one (i := 15) (by kernel_rfl) rfl ?_
              refine w9 rfl rfl rfl (wq (j := k) (p' := ⟨0, false⟩) zC rfl rfl rfl (wn (by omega)) rfl rfl) <| qy (by kernel_rfl) ?_
              refine QAt.block <| qO ⟨(wK w' k, l', (ba, .cells ((we (zm w' (w'.leaves k)).all).flatMap wc ++ []).toArray 125 (0, 0)) :: (bl, .cells ((qx (upd w'.leaves k ⟨0, false⟩)).flatMap wb ++ []).toArray 38 (0, 0)) :: Cg2), ?_⟩ ?_
              ·
               try dsimp only
               have hkf : ¬ zg w' 2 k = true := by simpa using hc23
               refine ⟨?_, rfl, ?_⟩
               · unfold wK; rw [if_neg hkf]; exact ⟨_, Cg2, hv2, hs2, rfl⟩
               · unfold wK; rw [if_neg hkf]; have := zp w' (w'.leaves k); dsimp only; omega
              · (try dsimp only); exact (by rw [show ∀ (f : Int → zk) (b : zk), (qx f).set k b = qx (upd f (k : Int) b) from fun _ _ => zP]; exact wH (by simp))
             ·
              refine qp rfl rfl rfl (qn rfl (wM (C) (yN w' v C hR2 (w'.leaves k) (by omega)))) ?_
              rintro t90 _ ⟨l', C'', rfl, hR', rfl⟩
              refine TrS.take 10 rfl rfl (by kernel_rfl) rfl (w6 rfl) ?_
              refine TrS.take 11 rfl rfl (by kernel_rfl) rfl (qU rfl rfl) ?_
              refine TrS.take 12 rfl rfl (by kernel_rfl) rfl (qU rfl rfl) ?_
              refine TrS.one (i := 1) (by kernel_rfl) rfl ?_
              refine qQ rfl rfl rfl (qG rfl (show wG v 6 = some (.slice (some ⟨bl, 0, none⟩) 32 32) by rw [hv]; rfl)) <| TrS.one (i := 13) (by kernel_rfl) rfl ?_
              refine w9 rfl rfl rfl (qW rfl rfl hR2.len hR'.len hR'.one) ?_
              obtain ⟨pg2, cg2, Cg2, hv2, hs2, hC2⟩ := hR'.at
              rw [zU] at hC2
              refine kO (L' := [(b2, .cells l'.toArray 41 (0, 0))] :: [(b4, .cells node0V.toArray 41 (0, 0))] :: [(ba, .cells ((we (zm w' (w'.leaves k)).all).flatMap wc ++ []).toArray 125 (0, 0))] :: [(bl, .cells ((qx w'.leaves).flatMap wb ++ []).toArray 38 (0, 0))] :: Cg2 :: F) (by rw [hC2]; exact (yI (by intro f; simp only [List.flatten_cons, List.flatten_nil, List.append_nil, List.countP_append, List.countP_cons, List.countP_nil]; omega))) ?_
              refine TrS.take 14 rfl rfl (by kernel_rfl) rfl (wU (j := k) (off := k * 2) rfl rfl rfl (by omega) (by simp)) ?_
              refine TrS.one (i := 15) (by kernel_rfl) rfl ?_
              refine w9 rfl rfl rfl (wq (j := k) (p' := ⟨0, false⟩) zC rfl rfl rfl (wn (by omega)) rfl rfl) <| qy (by kernel_rfl) ?_
              refine QAt.block <| qO ⟨(wK w' k, l', (ba, .cells ((we (zm w' (w'.leaves k)).all).flatMap wc ++ []).toArray 125 (0, 0)) :: (bl, .cells ((qx (upd w'.leaves k ⟨0, false⟩)).flatMap wb ++ []).toArray 38 (0, 0)) :: Cg2), ?_⟩ ?_
              ·
               try dsimp only
               have hkf : ¬ zg w' 2 k = true := by simpa using hc23
               refine ⟨?_, rfl, ?_⟩
               · unfold wK; rw [if_neg hkf]; exact ⟨_, Cg2, hv2, hs2, rfl⟩
               · unfold wK; rw [if_neg hkf]; have := zp w' (w'.leaves k); dsimp only; omega
              · (try dsimp only); exact (by rw [show ∀ (f : Int → zk) (b : zk), (qx f).set k b = qx (upd f (k : Int) b) from fun _ _ => zP]; exact wH (by simp))
          ·
           refine qQ rfl rfl rfl (qG rfl (show wG v 6 = some (.slice (some ⟨bl, 0, none⟩) 32 32) by rw [hv]; rfl)) <| TrS.take 7 rfl rfl (by kernel_rfl) rfl (wU (j := k) (off := k * 2) rfl rfl rfl (by omega) (by simp)) ?_
           refine xM (i := 1) (j := 3) (k := 8) (by kernel_rfl) rfl ?_ ?_ ?_
           ·
            refine qQ rfl rfl rfl (qG rfl (show wG v 6 = some (.slice (some ⟨bl, 0, none⟩) 32 32) by rw [hv]; rfl)) <| wg (i := 3) (j := 8) (by kernel_rfl) rfl ?_ ?_
            ·
             refine qQ rfl rfl rfl (w7 rfl hR2.len) <| TrS.one (i := 8) (by kernel_rfl) rfl ?_
             refine qQ rfl rfl rfl (zJ (j := k) zC rfl (show (bl, Obj.cells ((qx w'.leaves).flatMap wb ++ []).toArray 38 (0, 0)) ∈ List.flatten _ by rw [hC']; simp) (wn (by omega)) rfl) <| TrS.one (i := 9) (by kernel_rfl) rfl ?_
             refine qp rfl rfl rfl (qn rfl (wM (C) (yN w' v C hR2 (w'.leaves k) (by omega)))) ?_
             rintro t90 _ ⟨l', C'', rfl, hR', rfl⟩
             refine TrS.take 10 rfl rfl (by kernel_rfl) rfl (w6 rfl) ?_
             refine TrS.take 11 rfl rfl (by kernel_rfl) rfl (qU rfl rfl) ?_
             refine TrS.take 12 rfl rfl (by kernel_rfl) rfl (qU rfl rfl) ?_
             refine TrS.one (i := 13) (by kernel_rfl) rfl ?_
             refine w9 rfl rfl rfl (qW rfl rfl hR2.len hR'.len hR'.one) ?_
             obtain ⟨pg2, cg2, Cg2, hv2, hs2, hC2⟩ := hR'.at
             rw [zU] at hC2
             refine kO (L' := [(b2, .cells l'.toArray 41 (0, 0))] :: [(b4, .cells node0V.toArray 41 (0, 0))] :: [(ba, .cells ((we (zm w' (w'.leaves k)).all).flatMap wc ++ []).toArray 125 (0, 0))] :: [(bl, .cells ((qx w'.leaves).flatMap wb ++ []).toArray 38 (0, 0))] :: Cg2 :: F) (by rw [hC2]; exact (yI (by intro f; simp only [List.flatten_cons, List.flatten_nil, List.append_nil, List.countP_append, List.countP_cons, List.countP_nil]; omega))) ?_
             refine TrS.take 14 rfl rfl (by kernel_rfl) rfl (wU (j := k) (off := k * 2) rfl rfl rfl (by omega) (by simp)) ?_
             refine TrS.one (i := 15) (by kernel_rfl) rfl ?_
             refine w9 rfl rfl rfl (wq (j := k) (p' := ⟨0, false⟩) zC rfl rfl rfl (wn (by omega)) rfl rfl) <| qy (by kernel_rfl) ?_
             refine QAt.block <| qO ⟨(wK w' k, l', (ba, .cells ((we (zm w' (w'.leaves k)).all).flatMap wc ++ []).toArray 125 (0, 0)) :: (bl, .cells ((qx (upd w'.leaves k ⟨0, false⟩)).flatMap wb ++ []).toArray 38 (0, 0)) :: Cg2), ?_⟩ ?_
             ·
              try dsimp only
              have hkf : ¬ zg w' 2 k = true := by simpa using hc23
              refine ⟨?_, rfl, ?_⟩
              · unfold wK; rw [if_neg hkf]; exact ⟨_, Cg2, hv2, hs2, rfl⟩
              · unfold wK; rw [if_neg hkf]; have := zp w' (w'.leaves k); dsimp only; omega
             · (try dsimp only); exact (by rw [show ∀ (f : Int → zk) (b : zk), (qx f).set k b = qx (upd f (k : Int) b) from fun _ _ => zP]; exact wH (by simp))
            ·
             refine qQ rfl rfl rfl (zJ (j := k) zC rfl (show (bl, Obj.cells ((qx w'.leaves).flatMap wb ++ []).toArray 38 (0, 0)) ∈ List.flatten _ by rw [hC']; simp) (wn (by omega)) rfl) <| TrS.one (i := 3) (by kernel_rfl) rfl ?_
             refine qQ rfl rfl rfl (w7 rfl hR2.len) <| TrS.one (i := 9) (by kernel_rfl) rfl ?_
             refine qp rfl rfl rfl (qn rfl (wM (C) (yN w' v C hR2 (w'.leaves k) (by omega)))) ?_
             rintro t90 _ ⟨l', C'', rfl, hR', rfl⟩
             refine TrS.take 10 rfl rfl (by kernel_rfl) rfl (w6 rfl) ?_
             refine TrS.take 11 rfl rfl (by kernel_rfl) rfl (qU rfl rfl) ?_
             refine TrS.take 12 rfl rfl (by kernel_rfl) rfl (qU rfl rfl) ?_
             refine TrS.one (i := 13) (by kernel_rfl) rfl ?_
             refine w9 rfl rfl rfl (qW rfl rfl hR2.len hR'.len hR'.one) ?_
             obtain ⟨pg2, cg2, Cg2, hv2, hs2, hC2⟩ := hR'.at
             rw [zU] at hC2
             refine kO (L' := [(b2, .cells l'.toArray 41 (0, 0))] :: [(b4, .cells node0V.toArray 41 (0, 0))] :: [(ba, .cells ((we (zm w' (w'.leaves k)).all).flatMap wc ++ []).toArray 125 (0, 0))] :: [(bl, .cells ((qx w'.leaves).flatMap wb ++ []).toArray 38 (0, 0))] :: Cg2 :: F) (by rw [hC2]; exact (yI (by intro f; simp only [List.flatten_cons, List.flatten_nil, List.append_nil, List.countP_append, List.countP_cons, List.countP_nil]; omega))) ?_
             refine TrS.take 14 rfl rfl (by kernel_rfl) rfl (wU (j := k) (off := k * 2) rfl rfl rfl (by omega) (by simp)) ?_
             refine TrS.one (i := 15) (by kernel_rfl) rfl ?_
             refine w9 rfl rfl rfl (wq (j := k) (p' := ⟨0, false⟩) zC rfl rfl rfl (wn (by omega)) rfl rfl) <| qy (by kernel_rfl) ?_
             refine QAt.block <| qO ⟨(wK w' k, l', (ba, .cells ((we (zm w' (w'.leaves k)).all).flatMap wc ++ []).toArray 125 (0, 0)) :: (bl, .cells ((qx (upd w'.leaves k ⟨0, false⟩)).flatMap wb ++ []).toArray 38 (0, 0)) :: Cg2), ?_⟩ ?_
             ·
              try dsimp only
              have hkf : ¬ zg w' 2 k = true := by simpa using hc23
              refine ⟨?_, rfl, ?_⟩
              · unfold wK; rw [if_neg hkf]; exact ⟨_, Cg2, hv2, hs2, rfl⟩
              · unfold wK; rw [if_neg hkf]; have := zp w' (w'.leaves k); dsimp only; omega
             · (try dsimp only); exact (by rw [show ∀ (f : Int → zk) (b : zk), (qx f).set k b = qx (upd f (k : Int) b) from fun _ _ => zP]; exact wH (by simp))
           ·
            refine qQ rfl rfl rfl (w7 rfl hR2.len) <| wg (i := 1) (j := 8) (by kernel_rfl) rfl ?_ ?_
            ·
             refine qQ rfl rfl rfl (qG rfl (show wG v 6 = some (.slice (some ⟨bl, 0, none⟩) 32 32) by rw [hv]; rfl)) <| TrS.one (i := 8) (by kernel_rfl) rfl ?_
             refine qQ rfl rfl rfl (zJ (j := k) zC rfl (show (bl, Obj.cells ((qx w'.leaves).flatMap wb ++ []).toArray 38 (0, 0)) ∈ List.flatten _ by rw [hC']; simp) (wn (by omega)) rfl) <| TrS.one (i := 9) (by kernel_rfl) rfl ?_
             refine qp rfl rfl rfl (qn rfl (wM (C) (yN w' v C hR2 (w'.leaves k) (by omega)))) ?_
             rintro t90 _ ⟨l', C'', rfl, hR', rfl⟩
             refine TrS.take 10 rfl rfl (by kernel_rfl) rfl (w6 rfl) ?_
             refine TrS.take 11 rfl rfl (by kernel_rfl) rfl (qU rfl rfl) ?_
             refine TrS.take 12 rfl rfl (by kernel_rfl) rfl (qU rfl rfl) ?_
             refine TrS.one (i := 13) (by kernel_rfl) rfl ?_
             refine w9 rfl rfl rfl (qW rfl rfl hR2.len hR'.len hR'.one) ?_
             obtain ⟨pg2, cg2, Cg2, hv2, hs2, hC2⟩ := hR'.at
             rw [zU] at hC2
             refine kO (L' := [(b2, .cells l'.toArray 41 (0, 0))] :: [(b4, .cells node0V.toArray 41 (0, 0))] :: [(ba, .cells ((we (zm w' (w'.leaves k)).all).flatMap wc ++ []).toArray 125 (0, 0))] :: [(bl, .cells ((qx w'.leaves).flatMap wb ++ []).toArray 38 (0, 0))] :: Cg2 :: F) (by rw [hC2]; exact (yI (by intro f; simp only [List.flatten_cons, List.flatten_nil, List.append_nil, List.countP_append, List.countP_cons, List.countP_nil]; omega))) ?_
             refine TrS.take 14 rfl rfl (by kernel_rfl) rfl (wU (j := k) (off := k * 2) rfl rfl rfl (by omega) (by simp)) ?_
             refine TrS.one (i := 15) (by kernel_rfl) rfl ?_
             refine w9 rfl rfl rfl (wq (j := k) (p' := ⟨0, false⟩) zC rfl rfl rfl (wn (by omega)) rfl rfl) <| qy (by kernel_rfl) ?_
             refine QAt.block <| qO ⟨(wK w' k, l', (ba, .cells ((we (zm w' (w'.leaves k)).all).flatMap wc ++ []).toArray 125 (0, 0)) :: (bl, .cells ((qx (upd w'.leaves k ⟨0, false⟩)).flatMap wb ++ []).toArray 38 (0, 0)) :: Cg2), ?_⟩ ?_
             ·
              try dsimp only
              have hkf : ¬ zg w' 2 k = true := by simpa using hc23
              refine ⟨?_, rfl, ?_⟩
              · unfold wK; rw [if_neg hkf]; exact ⟨_, Cg2, hv2, hs2, rfl⟩
              · unfold wK; rw [if_neg hkf]; have := zp w' (w'.leaves k); dsimp only; omega
             · (try dsimp only); exact (by rw [show ∀ (f : Int → zk) (b : zk), (qx f).set k b = qx (upd f (k : Int) b) from fun _ _ => zP]; exact wH (by simp))
            ·
             refine qQ rfl rfl rfl (zJ (j := k) zC rfl (show (bl, Obj.cells ((qx w'.leaves).flatMap wb ++ []).toArray 38 (0, 0)) ∈ List.flatten _ by rw [hC']; simp) (wn (by omega)) rfl) <| wg (i := 1) (j := 9) (by kernel_rfl) rfl ?_ ?_
             ·
              refine qQ rfl rfl rfl (qG rfl (show wG v 6 = some (.slice (some ⟨bl, 0, none⟩) 32 32) by rw [hv]; rfl)) <| TrS.one (i := 9) (by kernel_rfl) rfl ?_
              refine qp rfl rfl rfl (qn rfl (wM (C) (yN w' v C hR2 (w'.leaves k) (by omega)))) ?_
              rintro t90 _ ⟨l', C'', rfl, hR', rfl⟩
              refine TrS.take 10 rfl rfl (by kernel_rfl) rfl (w6 rfl) ?_
              refine TrS.take 11 rfl rfl (by kernel_rfl) rfl (qU rfl rfl) ?_
              refine TrS.take 12 rfl rfl (by kernel_rfl) rfl (qU rfl rfl) ?_
              refine TrS.one (i := 13) (by kernel_rfl) rfl ?_
              refine w9 rfl rfl rfl (qW rfl rfl hR2.len hR'.len hR'.one) ?_
              obtain ⟨pg2, cg2, Cg2, hv2, hs2, hC2⟩ := hR'.at
              rw [zU] at hC2
              refine kO (L' := [(b2, .cells l'.toArray 41 (0, 0))] :: [(b4, .cells node0V.toArray 41 (0, 0))] :: [(ba, .cells ((we (zm w' (w'.leaves k)).all).flatMap wc ++ []).toArray 125 (0, 0))] :: [(bl, .cells ((qx w'.leaves).flatMap wb ++ []).toArray 38 (0, 0))] :: Cg2 :: F) (by rw [hC2]; exact (yI (by intro f; simp only [List.flatten_cons, List.flatten_nil, List.append_nil, List.countP_append, List.countP_cons, List.countP_nil]; omega))) ?_
              refine TrS.take 14 rfl rfl (by kernel_rfl) rfl (wU (j := k) (off := k * 2) rfl rfl rfl (by omega) (by simp)) ?_
              refine TrS.one (i := 15) (by kernel_rfl) rfl ?_
              refine w9 rfl rfl rfl (wq (j := k) (p' := ⟨0, false⟩) zC rfl rfl rfl (wn (by omega)) rfl rfl) <| qy (by kernel_rfl) ?_
              refine QAt.block <| qO ⟨(wK w' k, l', (ba, .cells ((we (zm w' (w'.leaves k)).all).flatMap wc ++ []).toArray 125 (0, 0)) :: (bl, .cells ((qx (upd w'.leaves k ⟨0, false⟩)).flatMap wb ++ []).toArray 38 (0, 0)) :: Cg2), ?_⟩ ?_
              ·
               try dsimp only
               have hkf : ¬ zg w' 2 k = true := by simpa using hc23
               refine ⟨?_, rfl, ?_⟩
               · unfold wK; rw [if_neg hkf]; exact ⟨_, Cg2, hv2, hs2, rfl⟩
               · unfold wK; rw [if_neg hkf]; have := zp w' (w'.leaves k); dsimp only; omega
              · (try dsimp only); exact (by rw [show ∀ (f : Int → zk) (b : zk), (qx f).set k b = qx (upd f (k : Int) b) from fun _ _ => zP]; exact wH (by simp))
             ·
              refine qp rfl rfl rfl (qn rfl (wM (C) (yN w' v C hR2 (w'.leaves k) (by omega)))) ?_
              rintro t90 _ ⟨l', C'', rfl, hR', rfl⟩
              refine TrS.take 10 rfl rfl (by kernel_rfl) rfl (w6 rfl) ?_
              refine TrS.take 11 rfl rfl (by kernel_rfl) rfl (qU rfl rfl) ?_
              refine TrS.take 12 rfl rfl (by kernel_rfl) rfl (qU rfl rfl) ?_
              refine TrS.one (i := 1) (by kernel_rfl) rfl ?_
              refine qQ rfl rfl rfl (qG rfl (show wG v 6 = some (.slice (some ⟨bl, 0, none⟩) 32 32) by rw [hv]; rfl)) <| TrS.one (i := 13) (by kernel_rfl) rfl ?_
              refine w9 rfl rfl rfl (qW rfl rfl hR2.len hR'.len hR'.one) ?_
              obtain ⟨pg2, cg2, Cg2, hv2, hs2, hC2⟩ := hR'.at
              rw [zU] at hC2
              refine kO (L' := [(b2, .cells l'.toArray 41 (0, 0))] :: [(b4, .cells node0V.toArray 41 (0, 0))] :: [(ba, .cells ((we (zm w' (w'.leaves k)).all).flatMap wc ++ []).toArray 125 (0, 0))] :: [(bl, .cells ((qx w'.leaves).flatMap wb ++ []).toArray 38 (0, 0))] :: Cg2 :: F) (by rw [hC2]; exact (yI (by intro f; simp only [List.flatten_cons, List.flatten_nil, List.append_nil, List.countP_append, List.countP_cons, List.countP_nil]; omega))) ?_
              refine TrS.take 14 rfl rfl (by kernel_rfl) rfl (wU (j := k) (off := k * 2) rfl rfl rfl (by omega) (by simp)) ?_
              refine TrS.one (i := 15) (by kernel_rfl) rfl ?_
              refine w9 rfl rfl rfl (wq (j := k) (p' := ⟨0, false⟩) zC rfl rfl rfl (wn (by omega)) rfl rfl) <| qy (by kernel_rfl) ?_
              refine QAt.block <| qO ⟨(wK w' k, l', (ba, .cells ((we (zm w' (w'.leaves k)).all).flatMap wc ++ []).toArray 125 (0, 0)) :: (bl, .cells ((qx (upd w'.leaves k ⟨0, false⟩)).flatMap wb ++ []).toArray 38 (0, 0)) :: Cg2), ?_⟩ ?_
              ·
               try dsimp only
               have hkf : ¬ zg w' 2 k = true := by simpa using hc23
               refine ⟨?_, rfl, ?_⟩
               · unfold wK; rw [if_neg hkf]; exact ⟨_, Cg2, hv2, hs2, rfl⟩
               · unfold wK; rw [if_neg hkf]; have := zp w' (w'.leaves k); dsimp only; omega
              · (try dsimp only); exact (by rw [show ∀ (f : Int → zk) (b : zk), (qx f).set k b = qx (upd f (k : Int) b) from fun _ _ => zP]; exact wH (by simp))
           ·
            refine qQ rfl rfl rfl (zJ (j := k) zC rfl (show (bl, Obj.cells ((qx w'.leaves).flatMap wb ++ []).toArray 38 (0, 0)) ∈ List.flatten _ by rw [hC']; simp) (wn (by omega)) rfl) <| wg (i := 1) (j := 3) (by kernel_rfl) rfl ?_ ?_
            ·
             refine qQ rfl rfl rfl (qG rfl (show wG v 6 = some (.slice (some ⟨bl, 0, none⟩) 32 32) by rw [hv]; rfl)) <| TrS.one (i := 3) (by kernel_rfl) rfl ?_
             refine qQ rfl rfl rfl (w7 rfl hR2.len) <| TrS.one (i := 9) (by kernel_rfl) rfl ?_
             refine qp rfl rfl rfl (qn rfl (wM (C) (yN w' v C hR2 (w'.leaves k) (by omega)))) ?_
             rintro t90 _ ⟨l', C'', rfl, hR', rfl⟩
             refine TrS.take 10 rfl rfl (by kernel_rfl) rfl (w6 rfl) ?_
             refine TrS.take 11 rfl rfl (by kernel_rfl) rfl (qU rfl rfl) ?_
             refine TrS.take 12 rfl rfl (by kernel_rfl) rfl (qU rfl rfl) ?_
             refine TrS.one (i := 13) (by kernel_rfl) rfl ?_
             refine w9 rfl rfl rfl (qW rfl rfl hR2.len hR'.len hR'.one) ?_
             obtain ⟨pg2, cg2, Cg2, hv2, hs2, hC2⟩ := hR'.at
             rw [zU] at hC2
             refine kO (L' := [(b2, .cells l'.toArray 41 (0, 0))] :: [(b4, .cells node0V.toArray 41 (0, 0))] :: [(ba, .cells ((we (zm w' (w'.leaves k)).all).flatMap wc ++ []).toArray 125 (0, 0))] :: [(bl, .cells ((qx w'.leaves).flatMap wb ++ []).toArray 38 (0, 0))] :: Cg2 :: F) (by rw [hC2]; exact (yI (by intro f; simp only [List.flatten_cons, List.flatten_nil, List.append_nil, List.countP_append, List.countP_cons, List.countP_nil]; omega))) ?_
             refine TrS.take 14 rfl rfl (by kernel_rfl) rfl (wU (j := k) (off := k * 2) rfl rfl rfl (by omega) (by simp)) ?_
             refine TrS.one (i := 15) (by kernel_rfl) rfl ?_
             refine w9 rfl rfl rfl (wq (j := k) (p' := ⟨0, false⟩) zC rfl rfl rfl (wn (by omega)) rfl rfl) <| qy (by kernel_rfl) ?_
             refine QAt.block <| qO ⟨(wK w' k, l', (ba, .cells ((we (zm w' (w'.leaves k)).all).flatMap wc ++ []).toArray 125 (0, 0)) :: (bl, .cells ((qx (upd w'.leaves k ⟨0, false⟩)).flatMap wb ++ []).toArray 38 (0, 0)) :: Cg2), ?_⟩ ?_
             ·
              try dsimp only
              have hkf : ¬ zg w' 2 k = true := by simpa using hc23
              refine ⟨?_, rfl, ?_⟩
              · unfold wK; rw [if_neg hkf]; exact ⟨_, Cg2, hv2, hs2, rfl⟩
              · unfold wK; rw [if_neg hkf]; have := zp w' (w'.leaves k); dsimp only; omega
             · (try dsimp only); exact (by rw [show ∀ (f : Int → zk) (b : zk), (qx f).set k b = qx (upd f (k : Int) b) from fun _ _ => zP]; exact wH (by simp))
            ·
             refine qQ rfl rfl rfl (w7 rfl hR2.len) <| wg (i := 1) (j := 9) (by kernel_rfl) rfl ?_ ?_
             ·
              refine qQ rfl rfl rfl (qG rfl (show wG v 6 = some (.slice (some ⟨bl, 0, none⟩) 32 32) by rw [hv]; rfl)) <| TrS.one (i := 9) (by kernel_rfl) rfl ?_
              refine qp rfl rfl rfl (qn rfl (wM (C) (yN w' v C hR2 (w'.leaves k) (by omega)))) ?_
              rintro t90 _ ⟨l', C'', rfl, hR', rfl⟩
              refine TrS.take 10 rfl rfl (by kernel_rfl) rfl (w6 rfl) ?_
              refine TrS.take 11 rfl rfl (by kernel_rfl) rfl (qU rfl rfl) ?_
              refine TrS.take 12 rfl rfl (by kernel_rfl) rfl (qU rfl rfl) ?_
              refine TrS.one (i := 13) (by kernel_rfl) rfl ?_
              refine w9 rfl rfl rfl (qW rfl rfl hR2.len hR'.len hR'.one) ?_
              obtain ⟨pg2, cg2, Cg2, hv2, hs2, hC2⟩ := hR'.at
              rw [zU] at hC2
              refine kO (L' := [(b2, .cells l'.toArray 41 (0, 0))] :: [(b4, .cells node0V.toArray 41 (0, 0))] :: [(ba, .cells ((we (zm w' (w'.leaves k)).all).flatMap wc ++ []).toArray 125 (0, 0))] :: [(bl, .cells ((qx w'.leaves).flatMap wb ++ []).toArray 38 (0, 0))] :: Cg2 :: F) (by rw [hC2]; exact (yI (by intro f; simp only [List.flatten_cons, List.flatten_nil, List.append_nil, List.countP_append, List.countP_cons, List.countP_nil]; omega))) ?_
              refine TrS.take 14 rfl rfl (by kernel_rfl) rfl (wU (j := k) (off := k * 2) rfl rfl rfl (by omega) (by simp)) ?_
              refine TrS.one (i := 15) (by kernel_rfl) rfl ?_
              refine w9 rfl rfl rfl (wq (j := k) (p' := ⟨0, false⟩) zC rfl rfl rfl (wn (by omega)) rfl rfl) <| qy (by kernel_rfl) ?_
              refine QAt.block <| qO ⟨(wK w' k, l', (ba, .cells ((we (zm w' (w'.leaves k)).all).flatMap wc ++ []).toArray 125 (0, 0)) :: (bl, .cells ((qx (upd w'.leaves k ⟨0, false⟩)).flatMap wb ++ []).toArray 38 (0, 0)) :: Cg2), ?_⟩ ?_
              ·
               try dsimp only
               have hkf : ¬ zg w' 2 k = true := by simpa using hc23
               refine ⟨?_, rfl, ?_⟩
               · unfold wK; rw [if_neg hkf]; exact ⟨_, Cg2, hv2, hs2, rfl⟩
               · unfold wK; rw [if_neg hkf]; have := zp w' (w'.leaves k); dsimp only; omega
              · (try dsimp only); exact (by rw [show ∀ (f : Int → zk) (b : zk), (qx f).set k b = qx (upd f (k : Int) b) from fun _ _ => zP]; exact wH (by simp))
             ·
              refine qp rfl rfl rfl (qn rfl (wM (C) (yN w' v C hR2 (w'.leaves k) (by omega)))) ?_
              rintro t90 _ ⟨l', C'', rfl, hR', rfl⟩
              refine TrS.take 10 rfl rfl (by kernel_rfl) rfl (w6 rfl) ?_
              refine TrS.take 11 rfl rfl (by kernel_rfl) rfl (qU rfl rfl) ?_
              refine TrS.take 12 rfl rfl (by kernel_rfl) rfl (qU rfl rfl) ?_
              refine TrS.one (i := 1) (by kernel_rfl) rfl ?_
              refine qQ rfl rfl rfl (qG rfl (show wG v 6 = some (.slice (some ⟨bl, 0, none⟩) 32 32) by rw [hv]; rfl)) <| TrS.one (i := 13) (by kernel_rfl) rfl ?_
              refine w9 rfl rfl rfl (qW rfl rfl hR2.len hR'.len hR'.one) ?_
              obtain ⟨pg2, cg2, Cg2, hv2, hs2, hC2⟩ := hR'.at
              rw [zU] at hC2
              refine kO (L' := [(b2, .cells l'.toArray 41 (0, 0))] :: [(b4, .cells node0V.toArray 41 (0, 0))] :: [(ba, .cells ((we (zm w' (w'.leaves k)).all).flatMap wc ++ []).toArray 125 (0, 0))] :: [(bl, .cells ((qx w'.leaves).flatMap wb ++ []).toArray 38 (0, 0))] :: Cg2 :: F) (by rw [hC2]; exact (yI (by intro f; simp only [List.flatten_cons, List.flatten_nil, List.append_nil, List.countP_append, List.countP_cons, List.countP_nil]; omega))) ?_
              refine TrS.take 14 rfl rfl (by kernel_rfl) rfl (wU (j := k) (off := k * 2) rfl rfl rfl (by omega) (by simp)) ?_
              refine TrS.one (i := 15) (by kernel_rfl) rfl ?_
              refine w9 rfl rfl rfl (wq (j := k) (p' := ⟨0, false⟩) zC rfl rfl rfl (wn (by omega)) rfl rfl) <| qy (by kernel_rfl) ?_
              refine QAt.block <| qO ⟨(wK w' k, l', (ba, .cells ((we (zm w' (w'.leaves k)).all).flatMap wc ++ []).toArray 125 (0, 0)) :: (bl, .cells ((qx (upd w'.leaves k ⟨0, false⟩)).flatMap wb ++ []).toArray 38 (0, 0)) :: Cg2), ?_⟩ ?_
              ·
               try dsimp only
               have hkf : ¬ zg w' 2 k = true := by simpa using hc23
               refine ⟨?_, rfl, ?_⟩
               · unfold wK; rw [if_neg hkf]; exact ⟨_, Cg2, hv2, hs2, rfl⟩
               · unfold wK; rw [if_neg hkf]; have := zp w' (w'.leaves k); dsimp only; omega
              · (try dsimp only); exact (by rw [show ∀ (f : Int → zk) (b : zk), (qx f).set k b = qx (upd f (k : Int) b) from fun _ _ => zP]; exact wH (by simp))
         ·
          refine Tr.skip <| QAt.block <| qO ⟨(w', v, C), ?_⟩ ?_
          ·
           try dsimp only
           have hkf : zg w' 2 k = true := by simpa using hc23
           exact ⟨hR2, by unfold wK; rw [if_pos hkf], by omega⟩
          · (try dsimp only); exact qP _
        rintro ⟨⟨w3, v3, C3⟩, hcut⟩
        replace hcut : RefC ba bl w3 v3 C3 ∧ w3 = wK w' k ∧ w3.gone.length ≤ 802001 + k := hcut
        obtain ⟨hR3, hW3, hgl3⟩ := hcut
        show Tr _ _ _ ([(1, .int .i64 size), (2, .pointer (some ⟨b2, 0, none⟩)), (4, .pointer (some ⟨b4, 0, none⟩)), (10, .int .i64 k)]) ([(b2, .cells v3.toArray 41 (0, 0))] :: [(b4, .cells node0V.toArray 41 (0, 0))] :: C3 :: F) _ _
        refine Tr.region <| q9 (qA rfl) <| q9 (qj rfl rfl (by omega)) <| q9 (qC rfl) <| qB <| qh ⟨(k + 1, w3, v3, C3, _), ?_⟩ ?_ ?_
        ·
         try dsimp only
         refine ⟨by omega, hR3, by omega, ?_, by omega⟩
         rw [← hfold2, hW3, yo (ku (show k < 32 by omega)), List.foldl_cons]
        · (try dsimp only); omega
        · (try dsimp only); exact qP _
       ·
        refine Tr.exit <| qX <| qY <| qS <| QAt.seq <| zA (Γ := {pΓ : (RS) × (List Value) × (qM) // (fun (w4 : RS) (v4 : List Value) (C4 : qM) => RefC ba bl w4 v4 C4 ∧ w4 = QS w' ∧ w4.gone.length ≤ 803000) pΓ.1 pΓ.2.1 pΓ.2.2}) (fun g => (fun (w4 : RS) (v4 : List Value) (C4 : qM) => [(1, .int .i64 size), (2, .pointer (some ⟨b2, 0, none⟩)), (4, .pointer (some ⟨b4, 0, none⟩))]) g.1.1 g.1.2.1 g.1.2.2) (fun g => (fun (w4 : RS) (v4 : List Value) (C4 : qM) => [(b2, .cells v4.toArray 41 (0, 0))] :: [(b4, .cells node0V.toArray 41 (0, 0))] :: C4 :: F) g.1.1 g.1.2.1 g.1.2.2) ?_ ?_
        ·
         refine Tr.seq ?_
         rw [List.drop_of_length_le (by rw [jj]; omega), List.foldl_nil] at hfold2
         obtain ⟨pg', cg', Cg', hv, hs', hC'⟩ := hR2.at
         refine Tr.region <| q9 (w7 rfl hR2.len) <| q9 (qw rfl (zM (C) (kr w' v C hR2 1 0))) <| q9 (kM rfl) <| qB <| QAt.seq <| Tr.cond rfl (fun hc25 => ?_) (fun hc25 => ?_)
         ·
          refine Tr.region <| q9 (w7 rfl hR2.len) <| q9 (qD rfl) <| q9 (zQ (r := wb w'.sg) rfl (by rw [hv]; rfl) rfl) ?_
          refine qF (qn rfl (wM (C) (yN w' v C hR2 w'.sg (by omega)))) ?_
          rintro t101 _ ⟨l', C'', rfl, hR', rfl⟩
          refine q9 (qA rfl) <| q9 (qR rfl rfl) <| q9 (qR rfl rfl) <| qK (qW rfl rfl hR2.len hR'.len hR'.one) <| q9 (qD rfl) <| qK (yT (r := l'.take 7 ++ wb ⟨0, false⟩ ++ l'.drop 9) rfl rfl rfl (by rw [hR'.len]; decide) rfl rfl) ?_
          refine qB <| qO ⟨(QS w', l'.take 7 ++ wb ⟨0, false⟩ ++ l'.drop 9, C''), ?_⟩ ?_
          ·
           try dsimp only
           have hkf : ¬ zg w' 1 0 = true := by simpa using hc25
           refine ⟨?_, rfl, ?_⟩
           · unfold QS; rw [if_neg hkf]; exact hR'.setSg ⟨0, false⟩
           · unfold QS; rw [if_neg hkf]; have := zp w' w'.sg; dsimp only; omega
          · (try dsimp only); exact qP _
         ·
          refine Tr.skip <| qO ⟨(w', v, C), ?_⟩ ?_
          ·
           try dsimp only
           have hkf : zg w' 1 0 = true := by simpa using hc25
           exact ⟨hR2, by unfold QS; rw [if_pos hkf], by omega⟩
          · (try dsimp only); exact qP _
        rintro ⟨⟨w4, v4, C4⟩, hcut⟩
        replace hcut : RefC ba bl w4 v4 C4 ∧ w4 = QS w' ∧ w4.gone.length ≤ 803000 := hcut
        obtain ⟨hR4, hW4, hgl4⟩ := hcut
        show Tr _ _ _ ([(1, .int .i64 size), (2, .pointer (some ⟨b2, 0, none⟩)), (4, .pointer (some ⟨b4, 0, none⟩))]) ([(b2, .cells v4.toArray 41 (0, 0))] :: [(b4, .cells node0V.toArray 41 (0, 0))] :: C4 :: F) _ _
        refine Tr.seq ?_
        obtain ⟨pg', cg', Cg', hv, hs', hC'⟩ := hR4.at
        refine Tr.region <| q9 (w7 rfl hR4.len) <| q9 (qw rfl (zM (C4) (kr w4 v4 C4 hR4 2 (-1)))) <| q9 (kM rfl) <| qB <| QAt.seq <| Tr.cond rfl (fun hc27 => ?_) (fun hc27 => ?_)
        ·
         refine Tr.region <| q9 (w7 rfl hR4.len) <| q9 (qD rfl) <| q9 (zQ (r := wb w4.db) rfl (by rw [hv]; rfl) rfl) ?_
         refine qF (qn rfl (wM (C4) (yN w4 v4 C4 hR4 w4.db (by omega)))) ?_
         rintro t112 _ ⟨l', C'', rfl, hR', rfl⟩
         refine q9 (qA rfl) <| q9 (qR rfl rfl) <| q9 (qR rfl rfl) <| qK (qW rfl rfl hR4.len hR'.len hR'.one) <| q9 (qD rfl) <| qK (yT (r := l'.take 9 ++ wb ⟨0, false⟩ ++ l'.drop 11) rfl rfl rfl (by rw [hR'.len]; decide) rfl rfl) ?_
         refine qB <| qO ⟨(Zq w4, l'.take 9 ++ wb ⟨0, false⟩ ++ l'.drop 11, C''), ?_⟩ ?_
         ·
          try dsimp only
          have hkf : ¬ zg w4 2 (-1) = true := by simpa using hc27
          refine ⟨?_, ?_⟩
          · unfold Zq; rw [if_neg hkf]; exact hR'.setDb ⟨0, false⟩
          · have h := hfold2
            rw [List.drop_of_length_le (by rw [jj]; omega), List.foldl_nil] at h
            rw [← hfold]; unfold Z9; rw [if_pos hc19, ← h, hW4]
         · (try dsimp only); exact qP _
        ·
         refine Tr.skip <| qO ⟨(w4, v4, C4), ?_⟩ ?_
         ·
          try dsimp only
          have hkf : zg w4 2 (-1) = true := by simpa using hc27
          refine ⟨hR4, ?_⟩
          have h := hfold2
          rw [List.drop_of_length_le (by rw [jj]; omega), List.foldl_nil] at h
          rw [← hfold]; unfold Z9; rw [if_pos hc19, ← h, ← hW4]; unfold Zq; rw [if_pos hkf]
         · (try dsimp only); exact qP _
      ·
       refine Tr.skip <| qO ⟨(w, v, C), ?_⟩ ?_
       · (try dsimp only); exact ⟨hR, by rw [← hfold]; unfold Z9; rw [if_neg (by rw [hc19]; simp)]⟩
       · (try dsimp only); exact qP _
     rintro ⟨⟨w2, v2, C2⟩, hcut⟩
     replace hcut : RefC ba bl w2 v2 C2 ∧ w2 = Z9 (yC W1 size) := hcut
     obtain ⟨hw2, hW2⟩ := hcut
     show Tr _ _ _ ([(1, .int .i64 size), (2, .pointer (some ⟨b2, 0, none⟩)), (4, .pointer (some ⟨b4, 0, none⟩))]) ([(b2, .cells v2.toArray 41 (0, 0))] :: [(b4, .cells node0V.toArray 41 (0, 0))] :: C2 :: F) _ _
     refine Tr.seq <| Tr.seq ?_
     obtain ⟨pg', cg', Cg', hv, hs', hC'⟩ := hw2.at
     have hT : yf W size = (0, Wc w2 size) := by unfold yf; rw [if_neg hc1, if_neg hc3, ← hW1, ← hW2]
     rw [hv]
     unfold k6
     refine Tr.region <| q9 (qD rfl) <| q9 (qG rfl rfl) <| q9 (qA rfl) <| q9 (wZ rfl rfl) <| qB <| QAt.seq <| qI rfl (fun hc29 => ?_) (fun hc29 => ?_)
     ·
      refine Tr.seq <| Tr.region <| q9 (qA rfl) <| q9 (qD rfl) <| qK (wX rfl rfl rfl) <| qB <| QAt.seq <| Tr.region <| q9 (qD rfl) <| q9 (qk rfl) <| qK (wX rfl rfl rfl) <| qB <| QAt.seq <| Tr.seq <| Tr.region <| q9 (wE rfl) <| qK (wJ rfl rfl rfl rfl) <| q9 (qC rfl) <| qB <| QAt.seq <| Tr.ret <| wC (C2 :: F) (.inl rfl) rfl (zB rfl) (qd rfl) ?_
      rw [hT]
      first
      | exact ⟨_, C2, rfl, by unfold Wc; rw [if_pos hc29, hC']; exact ⟨_, Cg', rfl, hs', rfl⟩, rfl⟩
      | exact ⟨_, C2, rfl, by unfold Wc; rw [if_neg hc29, hC']; exact ⟨_, Cg', rfl, hs', rfl⟩, rfl⟩
     ·
      refine Tr.skip <| QAt.seq <| Tr.seq <| Tr.region <| q9 (wE rfl) <| qK (wJ rfl rfl rfl rfl) <| q9 (qC rfl) <| qB <| QAt.seq <| Tr.ret <| wC (C2 :: F) (.inl rfl) rfl (zB rfl) (qd rfl) ?_
      rw [hT]
      first
      | exact ⟨_, C2, rfl, by unfold Wc; rw [if_pos hc29, hC']; exact ⟨_, Cg', rfl, hs', rfl⟩, rfl⟩
      | exact ⟨_, C2, rfl, by unfold Wc; rw [if_neg hc29, hC']; exact ⟨_, Cg', rfl, hs', rfl⟩, rfl⟩
def QI (b : Bool) : List Value := [.bool b]
theorem Ks (b : Bool) : (QI b).length = 1 := rfl
theorem ZO {n i : Nat} (h : i < n) (p : Int → Bool) : ((zR n).take (i + 1)).any p = (((zR n).take i).any p || p i) := by
  rw [List.take_add_one, ku h, List.any_append]; simp
theorem ZF {n i : Nat} (h : i < n) (p : Int → Bool) : ((zR n).take (i + 1)).filter p = ((zR n).take i).filter p ++ (if p i then [(i : Int)] else []) := filter_take (ku h)
def kc (W : RS) (lv : Int) (i : Int) : Bool := (W.all i).fresh && decide ((w8 i).1 = lv)
def y2 (W : RS) (i : Nat) : List (Int × Int) := (((zR 1064).take i).filter (fun j => (W.all j).fresh)).map (fun j => (1, j))
def sgS (W : RS) (i : Nat) : Bool := W.sg.stale || ((zR 1064).take i).any (kc W 1)
def kz (W : RS) (i : Nat) (k : Int) : Bool := ((zR 1064).take i).any (fun j => kc W 2 j && decide ((w8 j).2.1 = k))
def QC (W : RS) (k : Int) : Bool := (W.leaves k).stale || kz W 1064 k
def kH (W : RS) (k : Nat) : List (Int × Int) := (((zR 32).take k).filter (fun j => QC W j && zg W 2 j)).map (fun j => (5, j))
def dbS (W : RS) (k : Nat) : Bool := W.db.stale || ((zR 32).take k).any (QC W)
def Xs (W : RS) : Bool := !(y2 W 1064).isEmpty || (W.self.stale || (W.sg.stale || W.db.stale))
def Qt (W : RS) (k : Nat) : Bool := Xs W || ((zR 32).take k).any (QC W)
def sgP (W : RS) : List (Int × Int) := if sgS W 1064 && zg W 1 0 then [(3, 0)] else []
def dbP (W : RS) : List (Int × Int) := if dbS W 32 && zg W 2 (-1) then [(4, 0)] else []
def Y1 (W : RS) : List (Int × Int) := if Qt W 32 then [(2, 0)] else []
def zf (W : RS) : List (Int × Int) := y2 W 1064 ++ kH W 32 ++ sgP W ++ dbP W ++ Y1 W
theorem freshL_step (W : RS) {i : Nat} (h : i < 1064) : y2 W (i + 1) = y2 W i ++ (if (W.all i).fresh then [(1, (i : Int))] else []) := by
  unfold y2; rw [ZF h, List.map_append]; split <;> rfl
theorem xl (W : RS) {k : Nat} (h : k < 32) : kH W (k + 1) = kH W k ++ (if QC W k && zg W 2 k then [(5, (k : Int))] else []) := by
  unfold kH; rw [ZF h, List.map_append]; split <;> rfl
theorem sgS_step (W : RS) {i : Nat} (h : i < 1064) : sgS W (i + 1) = (sgS W i || kc W 1 i) := by
  unfold sgS; rw [ZO h, Bool.or_assoc]
theorem ZH (W : RS) {k : Nat} (h : k < 32) : dbS W (k + 1) = (dbS W k || QC W k) := by
  unfold dbS; rw [ZO h, Bool.or_assoc]
theorem WY (W : RS) {k : Nat} (h : k < 32) : Qt W (k + 1) = (Qt W k || QC W k) := by
  unfold Qt; rw [ZO h, Bool.or_assoc]
theorem Ys (W : RS) {i : Nat} (h : i < 1064) (k : Int) : kz W (i + 1) k = (kz W i k || (kc W 2 i && decide ((w8 i).2.1 = k))) := by
  unfold kz; rw [ZO h]
theorem Yt (W : RS) {i : Nat} (h : i < 1064) (hf : kc W 2 i = false) : kz W (i + 1) = kz W i := by
  funext k; rw [Ys W h, hf]; simp
theorem leafT_some (W : RS) {i : Nat} (h : i < 1064) (hf : kc W 2 i = true) : kz W (i + 1) = upd (kz W i) (w8 i).2.1 true := by
  funext k; rw [Ys W h, hf]; unfold upd
  by_cases e : k = (w8 i).2.1
  · rw [if_pos e, e]; simp
  · rw [if_neg e]; simp [Ne.symm e]
theorem jl (W : RS) (i : Nat) (h : i ≤ 1064) : (y2 W i).length ≤ i := by
  unfold y2; rw [List.length_map]
  refine Nat.le_trans (List.length_filter_le _ _) ?_
  simp; omega
theorem Qc (W : RS) (i : Nat) (h : i ≤ 32) : (kH W i).length ≤ i := by
  unfold kH; rw [List.length_map]
  refine Nat.le_trans (List.length_filter_le _ _) ?_
  simp; omega
theorem xf (W : RS) (v : List Value) (C : qM) (hw : RefC ba bl W v C) :
    FnT Tryz.prog w0 43 #[.agg v.toArray] (C :: F) (fun v L' => ∃ C', SlC 65 2 v (zf W).length ((zf W).flatMap wt) C' ∧ L' = C' :: C :: F) := by
  obtain ⟨pg, cg, Cg, hv, hs, hC⟩ := hw.at
  have hvlen := hw.len
  refine FnT.enter (E0 := [(0, _)]) (N := 118) Tryz.func43 rfl rfl rfl rfl ?_
  refine Tr.seq <| Tr.region <| qF (wT rfl) ?_
  rintro t1 _ ⟨b1, rfl, rfl⟩
  refine q9 (qC rfl) <| qB <| QAt.seq <| Tr.seq <| Tr.region <| q9 (qC rfl) <| qB <| QAt.seq <| Tr.seq <| Tr.region <| q9 (qD rfl) <| q9 (qk rfl) <| q9 (qG rfl (show wG v 8 = some (.bool W.sg.stale) by rw [hv]; rfl)) <| q9 (qC rfl) <| qB <| QAt.seq <| Tr.seq <| Tr.region <| qF (xE (n := 32) (r := (List.replicate 32 false).flatMap QI ++ []) rfl rfl (by decide) (by decide) (by rw [List.append_nil]; exact Zk QI 1 32 false rfl (by omega))) ?_
  rintro t15 _ ⟨bt, rfl, rfl⟩
  refine q9 (qC rfl) <| qB ?_
  rw [show List.replicate 32 false = x2 32 (kz W 0) from by unfold x2 kz; simp only [List.take_zero, List.any_nil]; rw [List.map_const', List.length_range]]
  refine QAt.seq <| Tr.seq <| Tr.seq <| Tr.region <| q9 (qC rfl) <| qB <| QAt.seq <| Tr.block <| wB (Γ := {pΓ : (Nat) × (Value) × (qM) × (Bool) // (fun (i : Nat) (uo : Value) (Co : qM) (sb : Bool) => i ≤ 1064 ∧ SlC 65 2 uo (y2 W i).length ((y2 W i).flatMap wt) Co ∧ sb = sgS W i) pΓ.1 pΓ.2.1 pΓ.2.2.1 pΓ.2.2.2}) (fun g => (fun (i : Nat) (uo : Value) (Co : qM) (sb : Bool) => [(1, .pointer (some ⟨b1, 0, none⟩)), (3, uo), (4, .bool sb), (5, .slice (some ⟨bt, 0, none⟩) 32 32), (6, .int .i64 i)]) g.1.1 g.1.2.1 g.1.2.2.1 g.1.2.2.2) (fun g => (fun (i : Nat) (uo : Value) (Co : qM) (sb : Bool) => Co :: [(bt, .cells ((x2 32 (kz W i)).flatMap QI ++ []).toArray 4 (0, 0))] :: [(b1, .cells v.toArray 41 (0, 0))] :: C :: F) g.1.1 g.1.2.1 g.1.2.2.1 g.1.2.2.2) (fun g => (fun (i : Nat) (uo : Value) (Co : qM) (sb : Bool) => 1064 - i) g.1.1 g.1.2.1 g.1.2.2.1 g.1.2.2.2) ⟨(0, .slice none 0 0, [], W.sg.stale), by dsimp only; exact ⟨by omega, zu _ _, by simp [sgS]⟩⟩ (qP _) ?_
  rintro ⟨⟨i, uo, Co, sb⟩, hloop⟩
  replace hloop : i ≤ 1064 ∧ SlC 65 2 uo (y2 W i).length ((y2 W i).flatMap wt) Co ∧ sb = sgS W i := hloop
  obtain ⟨hi, hsl, hsb⟩ := hloop
  show Tr _ _ _ ([(1, .pointer (some ⟨b1, 0, none⟩)), (3, uo), (4, .bool sb), (5, .slice (some ⟨bt, 0, none⟩) 32 32), (6, .int .i64 i)]) (Co :: [(bt, .cells ((x2 32 (kz W i)).flatMap QI ++ []).toArray 4 (0, 0))] :: [(b1, .cells v.toArray 41 (0, 0))] :: C :: F) _ _
  refine Tr.seq <| Tr.seq <| Tr.region <| q9 (qA rfl) <| q9 (qv rfl rfl) <| qB <| QAt.seq <| qI rfl (fun hc5 => ?_) (fun hc5 => ?_)
  ·
   refine Tr.skip <| QAt.seq <| Tr.seq <| Tr.block <| Tr.seq ?_
   have hst := freshL_step W (show i < 1064 by omega)
   have hss := sgS_step W (show i < 1064 by omega)
   have hfl := jl W i (by omega)
   refine Tr.region <| q9 (qD rfl) <| q9 (qG rfl (show wG v 5 = some (.slice (some ⟨ba, 0, none⟩) 1064 1064) by rw [hv]; rfl)) <| q9 (qA rfl) <| q9 (qf (j := i) (off := i * 131) rfl rfl rfl (by omega) (by simp)) ?_
   refine q9 (qk rfl) <| q9 (zX (j := i) (k := 2) (v := .bool (W.all i).fresh) zK rfl (show (ba, Obj.cells ((we W.all).flatMap wc ++ []).toArray 125 (0, 0)) ∈ List.flatten _ by rw [hC]; simp) (zn (by omega)) rfl rfl) <| qB <| QAt.seq <| Tr.cond rfl (fun hc7 => ?_) (fun hc7 => ?_)
   ·
    refine Tr.seq <| Tr.region <| q9 (qA rfl) <| q9 (qA rfl) <| q9 (wF rfl) <| qF (w5 rfl rfl rfl) ?_
    rintro t29 _ ⟨b29, rfl, rfl⟩
    refine qF (wP (m := 1) (sz := 2) rfl rfl hsl (wQ (ys := wt (1, (i : Int))) inferInstance rfl rfl) rfl Tryz.underlying77 rfl rfl (by omega)) ?_
    rintro t30 _ ⟨C', hs', rfl⟩
    refine q9 (qC rfl) <| qB ?_
    rw [if_pos hc7] at hst
    have hs2 : SlC 65 2 t30 (y2 W (i + 1)).length ((y2 W (i + 1)).flatMap wt) C' := by rw [hst, List.length_append, List.flatMap_append]; simpa using hs'
    refine QAt.seq <| Tr.seq <| Tr.region <| q9 (qA rfl) <| q9 (qw rfl (Yg i (by omega))) <| q9 (qA rfl) <| q9 (qR rfl rfl) <| q9 (qR rfl rfl) <| qF (qV) ?_
    rintro t7 _ ⟨b7, rfl, rfl⟩
    refine qK (wJ (vs := [.int .i64 (w8 i).1, .int .i64 (w8 i).2.1, .int .i64 (w8 i).2.2]) rfl rfl rfl rfl) <| q9 (qC rfl) <| qB <| QAt.seq <| zA (Γ := {pΓ : (Bool) // (fun (sb2 : Bool) => sb2 = sgS W (i + 1)) pΓ}) (fun g => (fun (sb2 : Bool) => [(1, .pointer (some ⟨b1, 0, none⟩)), (4, .bool sb2), (3, t30), (5, .slice (some ⟨bt, 0, none⟩) 32 32), (6, .int .i64 i), (7, .pointer (some ⟨b7, 0, none⟩))]) g.1) (fun g => (fun (sb2 : Bool) => [(b7, .cells [.int .i64 (w8 i).1, .int .i64 (w8 i).2.1, .int .i64 (w8 i).2.2].toArray 143 (0, 0))] :: C' :: [(bt, .cells ((x2 32 (kz W i)).flatMap QI ++ []).toArray 4 (0, 0))] :: [(b1, .cells v.toArray 41 (0, 0))] :: C :: F) g.1) ?_ ?_
    ·
     refine Tr.region <| q9 (qA rfl) <| q9 (qA rfl) <| TrOs.split (s := 37) rfl (fun hg10_1 => ?_) (fun hg10_1 => ?_)
     ·
      refine qH rfl rfl rfl <| qH rfl rfl rfl <| qH rfl rfl rfl <| q9 (qT rfl rfl) <| q9 (qC rfl) <| qB <| qO ⟨_, ?_⟩ ?_
      · (try dsimp only); rw [hss, ← hsb, hg10_1]; first | rfl | (rw [Bool.false_or]; unfold kc; rw [hc7]; rfl)
      · (try dsimp only); exact qP _
     ·
      refine qE rfl rfl (qD rfl) <| qE rfl rfl (qG rfl rfl) <| qE rfl rfl (wR rfl rfl) <| q9 (qL rfl rfl) <| q9 (qC rfl) <| qB <| qO ⟨_, ?_⟩ ?_
      · (try dsimp only); rw [hss, ← hsb, hg10_1]; first | rfl | (rw [Bool.false_or]; unfold kc; rw [hc7]; rfl)
      · (try dsimp only); exact qP _
    rintro ⟨sb2, hcut⟩
    replace hcut : sb2 = sgS W (i + 1) := hcut
    have hsb2 := hcut
    show Tr _ _ _ ([(1, .pointer (some ⟨b1, 0, none⟩)), (4, .bool sb2), (3, t30), (5, .slice (some ⟨bt, 0, none⟩) 32 32), (6, .int .i64 i), (7, .pointer (some ⟨b7, 0, none⟩))]) ([(b7, .cells [.int .i64 (w8 i).1, .int .i64 (w8 i).2.1, .int .i64 (w8 i).2.2].toArray 143 (0, 0))] :: C' :: [(bt, .cells ((x2 32 (kz W i)).flatMap QI ++ []).toArray 4 (0, 0))] :: [(b1, .cells v.toArray 41 (0, 0))] :: C :: F) _ _
    refine Tr.seq <| Tr.region <| q9 (qD rfl) <| q9 (qG rfl rfl) <| q9 (wR rfl rfl) <| qB <| QAt.seq <| qI rfl (fun hc11 => ?_) (fun hc11 => ?_)
    ·
     have hpr := KV (i := i) (by omega) hc11
     obtain ⟨lf, hlf⟩ : ∃ lf : Nat, (w8 i).2.1 = lf := ⟨(w8 i).2.1.toNat, by omega⟩
     have hlt := leafT_some W (show i < 1064 by omega) (by unfold kc; rw [hc7, decide_eq_true hc11]; rfl)
     rw [hlf] at hlt
     refine Tr.region <| q9 (qA rfl) <| q9 (qD rfl) <| q9 (qG rfl rfl) <| q9 (qf (j := lf) (off := lf * 1) rfl rfl hlf (by omega) (by simp)) ?_
     refine qK (y6 (j := lf) (k := 0) (p' := true) Ks rfl rfl (Q3 (by omega)) rfl rfl rfl) <| qB <| QAt.block <| QAt.seq <| Tr.region <| q9 (qA rfl) <| q9 (qj rfl rfl (by omega)) <| q9 (qC rfl) <| qB <| qh ⟨(i + 1, t30, C', sb2), ?_⟩ ?_ ?_
     · (try dsimp only); exact ⟨by omega, hs2, hsb2⟩
     · (try dsimp only); omega
     · (try dsimp only); exact (by rw [hlt, ← zP]; exact qP _)
    ·
     have hlt := Yt W (show i < 1064 by omega) (by unfold kc; rw [decide_eq_false hc11]; simp)
     refine Tr.skip <| QAt.block <| QAt.seq <| Tr.region <| q9 (qA rfl) <| q9 (qj rfl rfl (by omega)) <| q9 (qC rfl) <| qB <| qh ⟨(i + 1, t30, C', sb2), ?_⟩ ?_ ?_
     · (try dsimp only); exact ⟨by omega, hs2, hsb2⟩
     · (try dsimp only); omega
     · (try dsimp only); exact (by rw [hlt]; exact qP _)
   ·
    rw [if_neg (by rw [hc7]; simp), List.append_nil] at hst
    have hlt := Yt W (show i < 1064 by omega) (by unfold kc; rw [hc7]; rfl)
    refine Tr.skip <| QAt.block <| QAt.seq <| Tr.region <| q9 (qA rfl) <| q9 (qj rfl rfl (by omega)) <| q9 (qC rfl) <| qB <| qh ⟨(i + 1, uo, Co, sb), ?_⟩ ?_ ?_
    · (try dsimp only); exact ⟨by omega, by rw [hst]; exact hsl, by rw [hss, ← hsb]; unfold kc; rw [hc7]; simp⟩
    · (try dsimp only); omega
    · (try dsimp only); exact (by rw [hlt]; exact qP _)
  ·
   refine Tr.exit <| qX <| qY <| qS <| QAt.seq <| Tr.seq ?_
   obtain rfl : i = 1064 := by omega
   have hfl := jl W 1064 (by omega)
   obtain ⟨pu, cu, hu⟩ := hsl.slice
   have hie : (y2 W 1064).isEmpty = !decide ((0 : Int) < ((y2 W 1064).length : Nat)) := by cases y2 W 1064 <;> simp <;> omega
   refine Tr.region <| q9 (qD rfl) <| q9 (qk rfl) <| q9 (qG rfl (show wG v 10 = some (.bool W.db.stale) by rw [hv]; rfl)) <| q9 (qC rfl) <| qB <| QAt.seq <| zA (Γ := {pΓ : (Bool) // (fun (an : Bool) => an = Qt W 0) pΓ}) (fun g => (fun (an : Bool) => [(1, .pointer (some ⟨b1, 0, none⟩)), (3, uo), (4, .bool sb), (5, .slice (some ⟨bt, 0, none⟩) 32 32), (9, .bool W.db.stale), (10, .bool an)]) g.1) (fun g => (fun (an : Bool) => Co :: [(bt, .cells ((x2 32 (kz W 1064)).flatMap QI ++ []).toArray 4 (0, 0))] :: [(b1, .cells v.toArray 41 (0, 0))] :: C :: F) g.1) ?_ ?_
   ·
    refine Tr.region <| q9 (qA rfl) <| q9 (qg (by rw [← hu]; rfl)) ?_
    refine q9 (zd rfl rfl) <| q9 (qA rfl) <| qN (s := 55) rfl (fun hg14_3 => ?_) (fun hg14_3 => ?_)
    ·
     refine qH rfl rfl rfl <| qH rfl rfl rfl <| qH rfl rfl rfl <| q9 (qT rfl rfl) <| q9 (qA rfl) <| qH rfl rfl rfl <| qH rfl rfl rfl <| qH rfl rfl rfl <| q9 (qT rfl rfl) <| q9 (qA rfl) <| qH rfl rfl rfl <| qH rfl rfl rfl <| qH rfl rfl rfl <| q9 (qT rfl rfl) <| q9 (qC rfl) <| qB <| qO ⟨_, ?_⟩ ?_
     · (try dsimp only); unfold Qt Xs; rw [List.take_zero, List.any_nil, Bool.or_false, hie]; first | (rw [decide_eq_true hg14_3]; rfl) | (rw [decide_eq_false hg14_3, hg14_8]; rfl) | (rw [decide_eq_false hg14_3, hg14_8, hg14_13]; rfl)
     · (try dsimp only); exact qP _
    ·
     refine qE rfl rfl (qD rfl) <| qE rfl rfl (qk rfl) <| qE rfl rfl (qG rfl (show wG v 12 = some (.bool W.self.stale) by rw [hv]; rfl)) <| q9 (qL rfl rfl) <| q9 (qA rfl) <| TrOs.split (s := 60) rfl (fun hg14_8 => ?_) (fun hg14_8 => ?_)
     ·
      refine qH rfl rfl rfl <| qH rfl rfl rfl <| qH rfl rfl rfl <| q9 (qT rfl rfl) <| q9 (qA rfl) <| qH rfl rfl rfl <| qH rfl rfl rfl <| qH rfl rfl rfl <| q9 (qT rfl rfl) <| q9 (qC rfl) <| qB <| qO ⟨_, ?_⟩ ?_
      · (try dsimp only); unfold Qt Xs; rw [List.take_zero, List.any_nil, Bool.or_false, hie]; first | (rw [decide_eq_true hg14_3]; rfl) | (rw [decide_eq_false hg14_3, hg14_8]; rfl) | (rw [decide_eq_false hg14_3, hg14_8, hg14_13]; rfl)
      · (try dsimp only); exact qP _
     ·
      refine qE rfl rfl (qD rfl) <| qE rfl rfl (qk rfl) <| qE rfl rfl (qG rfl (show wG v 8 = some (.bool W.sg.stale) by rw [hv]; rfl)) <| q9 (qL rfl rfl) <| q9 (qA rfl) <| TrOs.split (s := 65) rfl (fun hg14_13 => ?_) (fun hg14_13 => ?_)
      ·
       refine qH rfl rfl rfl <| qH rfl rfl rfl <| qH rfl rfl rfl <| q9 (qT rfl rfl) <| q9 (qC rfl) <| qB <| qO ⟨_, ?_⟩ ?_
       · (try dsimp only); unfold Qt Xs; rw [List.take_zero, List.any_nil, Bool.or_false, hie]; first | (rw [decide_eq_true hg14_3]; rfl) | (rw [decide_eq_false hg14_3, hg14_8]; rfl) | (rw [decide_eq_false hg14_3, hg14_8, hg14_13]; rfl)
       · (try dsimp only); exact qP _
      ·
       refine qE rfl rfl (qD rfl) <| qE rfl rfl (qk rfl) <| qE rfl rfl (qG rfl (show wG v 10 = some (.bool W.db.stale) by rw [hv]; rfl)) <| q9 (qL rfl rfl) <| q9 (qC rfl) <| qB <| qO ⟨_, ?_⟩ ?_
       · (try dsimp only); unfold Qt Xs; rw [List.take_zero, List.any_nil, Bool.or_false, hie]; first | (rw [decide_eq_true hg14_3]; rfl) | (rw [decide_eq_false hg14_3, hg14_8]; rfl) | (rw [decide_eq_false hg14_3, hg14_8, hg14_13]; rfl)
       · (try dsimp only); exact qP _
   rintro ⟨an, hcut⟩
   replace hcut : an = Qt W 0 := hcut
   have han := hcut
   show Tr _ _ _ ([(1, .pointer (some ⟨b1, 0, none⟩)), (3, uo), (4, .bool sb), (5, .slice (some ⟨bt, 0, none⟩) 32 32), (9, .bool W.db.stale), (10, .bool an)]) (Co :: [(bt, .cells ((x2 32 (kz W 1064)).flatMap QI ++ []).toArray 4 (0, 0))] :: [(b1, .cells v.toArray 41 (0, 0))] :: C :: F) _ _
   refine Tr.seq <| Tr.seq <| Tr.region <| q9 (qC rfl) <| qB <| QAt.seq <| Tr.block <| wB (Γ := {pΓ : (Nat) × (Value) × (qM) × (Bool) × (Bool) // (fun (k : Nat) (uo : Value) (Co : qM) (db : Bool) (an : Bool) => k ≤ 32 ∧ SlC 65 2 uo (y2 W 1064 ++ kH W k).length ((y2 W 1064 ++ kH W k).flatMap wt) Co ∧ db = dbS W k ∧ an = Qt W k) pΓ.1 pΓ.2.1 pΓ.2.2.1 pΓ.2.2.2.1 pΓ.2.2.2.2}) (fun g => (fun (k : Nat) (uo : Value) (Co : qM) (db : Bool) (an : Bool) => [(1, .pointer (some ⟨b1, 0, none⟩)), (3, uo), (4, .bool sb), (5, .slice (some ⟨bt, 0, none⟩) 32 32), (9, .bool db), (10, .bool an), (11, .int .i64 k)]) g.1.1 g.1.2.1 g.1.2.2.1 g.1.2.2.2.1 g.1.2.2.2.2) (fun g => (fun (k : Nat) (uo : Value) (Co : qM) (db : Bool) (an : Bool) => Co :: [(bt, .cells ((x2 32 (kz W 1064)).flatMap QI ++ []).toArray 4 (0, 0))] :: [(b1, .cells v.toArray 41 (0, 0))] :: C :: F) g.1.1 g.1.2.1 g.1.2.2.1 g.1.2.2.2.1 g.1.2.2.2.2) (fun g => (fun (k : Nat) (uo : Value) (Co : qM) (db : Bool) (an : Bool) => 32 - k) g.1.1 g.1.2.1 g.1.2.2.1 g.1.2.2.2.1 g.1.2.2.2.2) ⟨(0, uo, Co, W.db.stale, an), by dsimp only; exact ⟨by omega, by simpa [kH] using hsl, by simp [dbS], han⟩⟩ (qP _) ?_
   rintro ⟨⟨k, uo, Co, db, an⟩, hloop⟩
   replace hloop : k ≤ 32 ∧ SlC 65 2 uo (y2 W 1064 ++ kH W k).length ((y2 W 1064 ++ kH W k).flatMap wt) Co ∧ db = dbS W k ∧ an = Qt W k := hloop
   obtain ⟨hk, hsl2, hdb, han2⟩ := hloop
   show Tr _ _ _ ([(1, .pointer (some ⟨b1, 0, none⟩)), (3, uo), (4, .bool sb), (5, .slice (some ⟨bt, 0, none⟩) 32 32), (9, .bool db), (10, .bool an), (11, .int .i64 k)]) (Co :: [(bt, .cells ((x2 32 (kz W 1064)).flatMap QI ++ []).toArray 4 (0, 0))] :: [(b1, .cells v.toArray 41 (0, 0))] :: C :: F) _ _
   refine Tr.seq <| Tr.seq <| Tr.region <| q9 (qA rfl) <| q9 (qv rfl rfl) <| qB <| QAt.seq <| qI rfl (fun hc16 => ?_) (fun hc16 => ?_)
   ·
    refine Tr.skip <| QAt.seq <| Tr.seq <| Tr.block <| zA (Γ := {pΓ : (Bool) // (fun (b : Bool) => b = QC W k) pΓ}) (fun g => (fun (b : Bool) => [(1, .pointer (some ⟨b1, 0, none⟩)), (3, uo), (4, .bool sb), (5, .slice (some ⟨bt, 0, none⟩) 32 32), (9, .bool db), (10, .bool an), (11, .int .i64 k), (85, .bool b)]) g.1) (fun g => (fun (b : Bool) => Co :: [(bt, .cells ((x2 32 (kz W 1064)).flatMap QI ++ []).toArray 4 (0, 0))] :: [(b1, .cells v.toArray 41 (0, 0))] :: C :: F) g.1) ?_ ?_
    ·
     have hst := xl W (show k < 32 by omega)
     have hds := ZH W (show k < 32 by omega)
     have has := WY W (show k < 32 by omega)
     have hfl := Qc W k (by omega)
     have hfl0 := jl W 1064 (by omega)
     refine Tr.region <| q9 (qD rfl) <| q9 (qG rfl (show wG v 6 = some (.slice (some ⟨bl, 0, none⟩) 32 32) by rw [hv]; rfl)) <| q9 (qA rfl) <| q9 (qf (j := k) (off := k * 2) rfl rfl rfl (by omega) (by simp)) ?_
     refine q9 (qk rfl) <| q9 (zX (j := k) (k := 1) (v := .bool (W.leaves k).stale) zC rfl (show (bl, Obj.cells ((qx W.leaves).flatMap wb ++ []).toArray 38 (0, 0)) ∈ List.flatten _ by rw [hC]; simp) (wn (by omega)) rfl rfl) <| q9 (qA rfl) <| TrOs.split (s := 80) rfl (fun hg18_6 => ?_) (fun hg18_6 => ?_)
     ·
      refine qH rfl rfl rfl <| qH rfl rfl rfl <| qH rfl rfl rfl <| qH rfl rfl rfl <| q9 (qT rfl rfl) <| qB <| qO ⟨_, ?_⟩ ?_
      · (try dsimp only); unfold QC; first | (rw [hg18_6]; rfl) | (rw [hg18_6, Bool.false_or])
      · (try dsimp only); exact qP _
     ·
      refine qE rfl rfl (qA rfl) <| qE rfl rfl (qA rfl) <| qE rfl rfl (qf (j := k) (off := k * 1) rfl rfl rfl (by omega) (by simp)) ?_
      refine qE rfl rfl (zF (j := k) (k := 0) (v := .bool (kz W 1064 k)) Ks rfl (Q3 (by omega)) rfl rfl) <| q9 (qL rfl rfl) <| qB <| qO ⟨_, ?_⟩ ?_
      · (try dsimp only); unfold QC; first | (rw [hg18_6]; rfl) | (rw [hg18_6, Bool.false_or])
      · (try dsimp only); exact qP _
    rintro ⟨b, hcut⟩
    replace hcut : b = QC W k := hcut
    have hb := hcut
    show Tr _ _ _ ([(1, .pointer (some ⟨b1, 0, none⟩)), (3, uo), (4, .bool sb), (5, .slice (some ⟨bt, 0, none⟩) 32 32), (9, .bool db), (10, .bool an), (11, .int .i64 k), (85, .bool b)]) (Co :: [(bt, .cells ((x2 32 (kz W 1064)).flatMap QI ++ []).toArray 4 (0, 0))] :: [(b1, .cells v.toArray 41 (0, 0))] :: C :: F) _ _
    refine Tr.cond rfl (fun hc16 => ?_) (fun hc16 => ?_)
    ·
     refine Tr.seq <| Tr.region <| q9 (qC rfl) <| qB <| QAt.seq <| Tr.seq <| Tr.region <| q9 (qC rfl) <| qB <| QAt.seq <| Tr.seq <| Tr.region <| q9 (w7 rfl hvlen) <| q9 (qA rfl) <| q9 (qw rfl (zM (C) (kr W v C hw 2 k))) <| qB <| QAt.seq <| Tr.cond rfl (fun hc21 => ?_) (fun hc21 => ?_)
     ·
      have hst := xl W (show k < 32 by omega)
      have hfl := Qc W k (by omega)
      have hfl0 := jl W 1064 (by omega)
      rw [← hb, hc16, hc21, if_pos (by rfl)] at hst
      refine Tr.region <| q9 (qA rfl) <| q9 (qA rfl) <| q9 (wF rfl) <| qF (w5 rfl rfl rfl) ?_
      rintro t92 _ ⟨b92, rfl, rfl⟩
      refine qF (wP (m := 1) (sz := 2) rfl rfl hsl2 (wQ (ys := wt (5, (k : Int))) inferInstance rfl rfl) rfl Tryz.underlying77 rfl rfl (by rw [List.length_append]; omega)) ?_
      rintro t93 _ ⟨C', hs', rfl⟩
      refine q9 (qC rfl) <| qB <| QAt.block <| QAt.seq <| Tr.region <| q9 (qA rfl) <| q9 (qj rfl rfl (by omega)) <| q9 (qC rfl) <| qB <| qh ⟨(k + 1, t93, C', true, true), ?_⟩ ?_ ?_
      · (try dsimp only); exact ⟨by omega, by rw [hst, ← List.append_assoc, List.length_append, List.flatMap_append]; simpa using hs', by rw [ZH W (show k < 32 by omega), ← hb, hc16]; simp, by rw [WY W (show k < 32 by omega), ← hb, hc16]; simp⟩
      · (try dsimp only); omega
      · (try dsimp only); exact qP _
     ·
      refine Tr.skip <| QAt.block <| QAt.seq <| Tr.region <| q9 (qA rfl) <| q9 (qj rfl rfl (by omega)) <| q9 (qC rfl) <| qB <| qh ⟨(k + 1, uo, Co, true, true), ?_⟩ ?_ ?_
      · (try dsimp only); exact ⟨by omega, by rw [xl W (show k < 32 by omega), ← hb, hc16, hc21]; simpa using hsl2, by rw [ZH W (show k < 32 by omega), ← hb, hc16]; simp, by rw [WY W (show k < 32 by omega), ← hb, hc16]; simp⟩
      · (try dsimp only); omega
      · (try dsimp only); exact qP _
    ·
     refine Tr.skip <| QAt.block <| QAt.seq <| Tr.region <| q9 (qA rfl) <| q9 (qj rfl rfl (by omega)) <| q9 (qC rfl) <| qB <| qh ⟨(k + 1, uo, Co, db, an), ?_⟩ ?_ ?_
     · (try dsimp only); exact ⟨by omega, by rw [xl W (show k < 32 by omega), ← hb, hc16]; simpa using hsl2, by rw [ZH W (show k < 32 by omega), ← hb, hc16, hdb]; simp, by rw [WY W (show k < 32 by omega), ← hb, hc16, han2]; simp⟩
     · (try dsimp only); omega
     · (try dsimp only); exact qP _
   ·
    refine Tr.exit <| qX <| qY <| qS <| QAt.seq <| zA (Γ := {pΓ : (Value) × (qM) × (List (Int × Int)) // (fun (u1 : Value) (C1 : qM) (l1 : List (Int × Int)) => SlC 65 2 u1 l1.length (l1.flatMap wt) C1 ∧ l1 = y2 W 1064 ++ kH W 32 ++ sgP W ∧ l1.length ≤ 1097) pΓ.1 pΓ.2.1 pΓ.2.2}) (fun g => (fun (u1 : Value) (C1 : qM) (l1 : List (Int × Int)) => [(1, .pointer (some ⟨b1, 0, none⟩)), (3, u1), (9, .bool db), (10, .bool an)]) g.1.1 g.1.2.1 g.1.2.2) (fun g => (fun (u1 : Value) (C1 : qM) (l1 : List (Int × Int)) => C1 :: [(b1, .cells v.toArray 41 (0, 0))] :: C :: F) g.1.1 g.1.2.1 g.1.2.2) ?_ ?_
    ·
     refine zA (Γ := {pΓ : (Bool) × (List (Int × Int)) // (fun (b : Bool) (l0 : List (Int × Int)) => b = (sgS W 1064 && zg W 1 0) ∧ l0 = y2 W 1064 ++ kH W 32 ∧ l0.length ≤ 1096 ∧ SlC 65 2 uo l0.length (l0.flatMap wt) Co ∧ db = dbS W 32 ∧ an = Qt W 32) pΓ.1 pΓ.2}) (fun g => (fun (b : Bool) (l0 : List (Int × Int)) => [(1, .pointer (some ⟨b1, 0, none⟩)), (3, uo), (9, .bool db), (10, .bool an), (98, .bool b)]) g.1.1 g.1.2) (fun g => (fun (b : Bool) (l0 : List (Int × Int)) => Co :: [(b1, .cells v.toArray 41 (0, 0))] :: C :: F) g.1.1 g.1.2) ?_ ?_
     ·
      obtain rfl : k = 32 := by omega
      have hfl := Qc W 32 (by omega)
      have hfl0 := jl W 1064 (by omega)
      obtain ⟨l0, hl0⟩ : ∃ l0, y2 W 1064 ++ kH W 32 = l0 := ⟨_, rfl⟩
      have hll0 : l0.length ≤ 1096 := by rw [← hl0, List.length_append]; omega
      rw [hl0] at hsl2
      refine Tr.region <| q9 (qA rfl) <| q9 (qA rfl) <| TrOs.split (s := 95) rfl (fun hg23_1 => ?_) (fun hg23_1 => ?_)
      ·
       refine qE rfl rfl (w7 rfl hvlen) <| qE rfl rfl (qw rfl (zM (C) (kr W v C hw 1 0))) <| q9 (qT rfl rfl) <| qB <| qO ⟨(_, l0), ?_⟩ ?_
       ·
        try dsimp only
        refine ⟨?_, hl0.symm, hll0, hsl2, hdb, han2⟩
        rw [← hsb]; rw [hg23_1]; first | rfl | simp
       · (try dsimp only); exact qP _
      ·
       refine qH rfl rfl rfl <| qH rfl rfl rfl <| q9 (qL rfl rfl) <| qB <| qO ⟨(_, l0), ?_⟩ ?_
       ·
        try dsimp only
        refine ⟨?_, hl0.symm, hll0, hsl2, hdb, han2⟩
        rw [← hsb]; rw [hg23_1]; first | rfl | simp
       · (try dsimp only); exact qP _
     rintro ⟨⟨b, l0⟩, hcut⟩
     replace hcut : b = (sgS W 1064 && zg W 1 0) ∧ l0 = y2 W 1064 ++ kH W 32 ∧ l0.length ≤ 1096 ∧ SlC 65 2 uo l0.length (l0.flatMap wt) Co ∧ db = dbS W 32 ∧ an = Qt W 32 := hcut
     obtain ⟨hb3, hl0, hll0, hsl2, hdb3, han3⟩ := hcut
     show Tr _ _ _ ([(1, .pointer (some ⟨b1, 0, none⟩)), (3, uo), (9, .bool db), (10, .bool an), (98, .bool b)]) (Co :: [(b1, .cells v.toArray 41 (0, 0))] :: C :: F) _ _
     refine Tr.cond rfl (fun hc16 => ?_) (fun hc16 => ?_)
     ·
      refine Tr.region <| q9 (qA rfl) <| q9 (wF rfl) <| qF (w5 rfl rfl rfl) ?_
      rintro t101 _ ⟨b101, rfl, rfl⟩
      refine qF (wP (m := 1) (sz := 2) rfl rfl hsl2 (wQ (ys := wt (3, 0)) inferInstance rfl rfl) rfl Tryz.underlying77 rfl rfl (by omega)) ?_
      rintro t102 _ ⟨C', hs', rfl⟩
      refine q9 (qC rfl) <| qB <| qO ⟨(t102, C', l0 ++ [(3, 0)]), ?_⟩ ?_
      · (try dsimp only); exact ⟨by rw [List.length_append, List.flatMap_append]; simpa using hs', by rw [hl0]; unfold sgP; rw [if_pos (hb3 ▸ hc16)], by simp; omega⟩
      · (try dsimp only); exact qP _
     ·
      refine Tr.skip <| qO ⟨(uo, Co, l0), ?_⟩ ?_
      · (try dsimp only); exact ⟨hsl2, by rw [hl0]; unfold sgP; rw [if_neg (by rw [← hb3, hc16]; simp), List.append_nil], by omega⟩
      · (try dsimp only); exact qP _
    rintro ⟨⟨u1, C1, l1⟩, hcut⟩
    replace hcut : SlC 65 2 u1 l1.length (l1.flatMap wt) C1 ∧ l1 = y2 W 1064 ++ kH W 32 ++ sgP W ∧ l1.length ≤ 1097 := hcut
    obtain ⟨hs1, hl1, hll1⟩ := hcut
    show Tr _ _ _ ([(1, .pointer (some ⟨b1, 0, none⟩)), (3, u1), (9, .bool db), (10, .bool an)]) (C1 :: [(b1, .cells v.toArray 41 (0, 0))] :: C :: F) _ _
    refine zA (Γ := {pΓ : (Value) × (qM) × (List (Int × Int)) // (fun (u2 : Value) (C2 : qM) (l2 : List (Int × Int)) => SlC 65 2 u2 l2.length (l2.flatMap wt) C2 ∧ l2 = y2 W 1064 ++ kH W 32 ++ sgP W ++ dbP W ∧ l2.length ≤ 1098) pΓ.1 pΓ.2.1 pΓ.2.2}) (fun g => (fun (u2 : Value) (C2 : qM) (l2 : List (Int × Int)) => [(1, .pointer (some ⟨b1, 0, none⟩)), (3, u2), (10, .bool an)]) g.1.1 g.1.2.1 g.1.2.2) (fun g => (fun (u2 : Value) (C2 : qM) (l2 : List (Int × Int)) => C2 :: [(b1, .cells v.toArray 41 (0, 0))] :: C :: F) g.1.1 g.1.2.1 g.1.2.2) ?_ ?_
    ·
     refine zA (Γ := {pΓ : (Bool) // (fun (b : Bool) => b = (dbS W 32 && zg W 2 (-1))) pΓ}) (fun g => (fun (b : Bool) => [(1, .pointer (some ⟨b1, 0, none⟩)), (3, u1), (10, .bool an), (107, .bool b)]) g.1) (fun g => (fun (b : Bool) => C1 :: [(b1, .cells v.toArray 41 (0, 0))] :: C :: F) g.1) ?_ ?_
     ·
      refine Tr.region <| q9 (qA rfl) <| q9 (qA rfl) <| TrOs.split (s := 104) rfl (fun hg25_1 => ?_) (fun hg25_1 => ?_)
      ·
       refine qE rfl rfl (w7 rfl hvlen) <| qE rfl rfl (qw rfl (zM (C) (kr W v C hw 2 (-1)))) <| q9 (qT rfl rfl) <| qB <| qO ⟨_, ?_⟩ ?_
       ·
        try dsimp only
        have e : dbS W 32 = db := by rw [hdb]; congr 1; omega
        rw [e]; rw [hg25_1]; first | rfl | simp
       · (try dsimp only); exact qP _
      ·
       refine qH rfl rfl rfl <| qH rfl rfl rfl <| q9 (qL rfl rfl) <| qB <| qO ⟨_, ?_⟩ ?_
       ·
        try dsimp only
        have e : dbS W 32 = db := by rw [hdb]; congr 1; omega
        rw [e]; rw [hg25_1]; first | rfl | simp
       · (try dsimp only); exact qP _
     rintro ⟨b, hcut⟩
     replace hcut : b = (dbS W 32 && zg W 2 (-1)) := hcut
     have hb4 := hcut
     show Tr _ _ _ ([(1, .pointer (some ⟨b1, 0, none⟩)), (3, u1), (10, .bool an), (107, .bool b)]) (C1 :: [(b1, .cells v.toArray 41 (0, 0))] :: C :: F) _ _
     refine Tr.cond rfl (fun hc16 => ?_) (fun hc16 => ?_)
     ·
      refine Tr.region <| q9 (qA rfl) <| q9 (wF rfl) <| qF (w5 rfl rfl rfl) ?_
      rintro t110 _ ⟨b110, rfl, rfl⟩
      refine qF (wP (m := 1) (sz := 2) rfl rfl hs1 (wQ (ys := wt (4, 0)) inferInstance rfl rfl) rfl Tryz.underlying77 rfl rfl (by omega)) ?_
      rintro t111 _ ⟨C', hs', rfl⟩
      refine q9 (qC rfl) <| qB <| qO ⟨(t111, C', l1 ++ [(4, 0)]), ?_⟩ ?_
      · (try dsimp only); exact ⟨by rw [List.length_append, List.flatMap_append]; simpa using hs', by rw [hl1]; unfold dbP; rw [if_pos (hb4 ▸ hc16)], by simp; omega⟩
      · (try dsimp only); exact qP _
     ·
      refine Tr.skip <| qO ⟨(u1, C1, l1), ?_⟩ ?_
      · (try dsimp only); exact ⟨hs1, by rw [hl1]; unfold dbP; rw [if_neg (by rw [← hb4, hc16]; simp), List.append_nil], by omega⟩
      · (try dsimp only); exact qP _
    rintro ⟨⟨u2, C2, l2⟩, hcut⟩
    replace hcut : SlC 65 2 u2 l2.length (l2.flatMap wt) C2 ∧ l2 = y2 W 1064 ++ kH W 32 ++ sgP W ++ dbP W ∧ l2.length ≤ 1098 := hcut
    obtain ⟨hs2, hl2, hll2⟩ := hcut
    show Tr _ _ _ ([(1, .pointer (some ⟨b1, 0, none⟩)), (3, u2), (10, .bool an)]) (C2 :: [(b1, .cells v.toArray 41 (0, 0))] :: C :: F) _ _
    refine zA (Γ := {pΓ : (Value) × (qM) // (fun (u3 : Value) (C3 : qM) => SlC 65 2 u3 (zf W).length ((zf W).flatMap wt) C3) pΓ.1 pΓ.2}) (fun g => (fun (u3 : Value) (C3 : qM) => [(3, u3)]) g.1.1 g.1.2) (fun g => (fun (u3 : Value) (C3 : qM) => C3 :: [(b1, .cells v.toArray 41 (0, 0))] :: C :: F) g.1.1 g.1.2) ?_ ?_
    ·
     refine Tr.seq <| Tr.region <| q9 (qA rfl) <| qB <| QAt.seq <| Tr.cond rfl (fun hc27 => ?_) (fun hc27 => ?_)
     ·
      refine Tr.region <| q9 (qA rfl) <| q9 (wF rfl) <| qF (w5 rfl rfl rfl) ?_
      rintro t115 _ ⟨b115, rfl, rfl⟩
      refine qF (wP (m := 1) (sz := 2) rfl rfl hs2 (wQ (ys := wt (2, 0)) inferInstance rfl rfl) rfl Tryz.underlying77 rfl rfl (by omega)) ?_
      rintro t116 _ ⟨C', hs', rfl⟩
      refine q9 (qC rfl) <| qB <| qO ⟨(t116, C'), ?_⟩ ?_
      ·
       try dsimp only
       have e : zf W = l2 ++ [(2, 0)] := by rw [hl2]; unfold zf Y1; rw [if_pos (by rw [show Qt W 32 = an from by rw [han2]; congr 1; omega]; exact hc27)]
       rw [e, List.length_append, List.flatMap_append]; simpa using hs'
      · (try dsimp only); exact qP _
     ·
      refine Tr.skip <| qO ⟨(u2, C2), ?_⟩ ?_
      ·
       try dsimp only
       have e : zf W = l2 := by rw [hl2]; unfold zf Y1; rw [if_neg (by rw [show Qt W 32 = an from by rw [han2]; congr 1; omega, hc27]; simp), List.append_nil]
       rw [e]; exact hs2
      · (try dsimp only); exact qP _
    rintro ⟨⟨u3, C3⟩, hcut⟩
    replace hcut : SlC 65 2 u3 (zf W).length ((zf W).flatMap wt) C3 := hcut
    have hs3 := hcut
    show Tr _ _ _ ([(3, u3)]) (C3 :: [(b1, .cells v.toArray 41 (0, 0))] :: C :: F) _ _
    refine Tr.seq <| Tr.region <| q9 (qA rfl) <| q9 (qC rfl) <| qB <| QAt.seq <| Tr.ret <| qs (C3 :: C :: F) (.inl rfl) rfl (qd rfl) ?_
    exact ⟨C3, hs3, rfl⟩
theorem XY {k : Int × Int} (h : qo k) (e : k.1 = 1) : ∃ i : Nat, k.2 = i ∧ i < 1064 := by
  rcases h with ⟨-, h1, h2⟩ | h | h | h | ⟨h, -⟩
  · exact ⟨k.2.toNat, by omega, by omega⟩
  all_goals first | (rw [h] at e; exact absurd e (by decide)) | omega
theorem XX {k : Int × Int} (h : qo k) (e : k.1 = 5) : ∃ i : Nat, k.2 = i ∧ i < 32 := by
  rcases h with ⟨h, -⟩ | h | h | h | ⟨-, h1, h2⟩
  · omega
  · rw [h] at e; exact absurd e (by decide)
  · rw [h] at e; exact absurd e (by decide)
  · rw [h] at e; exact absurd e (by decide)
  · exact ⟨k.2.toNat, by omega, by omega⟩
def RefC0 (ba bl : Nat) (W : RS) (v : List Value) (C : qM) : Prop := ∃ pg gn cg, v = k6 W ba bl (.slice pg gn cg) ∧
  C = [(ba, .cells ((we W.all).flatMap wc ++ []).toArray 125 (0, 0)), (bl, .cells ((qx W.leaves).flatMap wb ++ []).toArray 38 (0, 0))]
theorem RefC0.len {W : RS} {v : List Value} {C : qM} (h : RefC0 ba bl W v C) : v.length = 14 := by
  obtain ⟨pg, gn, cg, rfl, rfl⟩ := h; rfl
theorem RefC0.one {W : RS} {v : List Value} {C : qM} (h : RefC0 ba bl W v C) : v.all (·.oneCell') = true := by
  obtain ⟨pg, gn, cg, rfl, rfl⟩ := h; rfl
theorem RefC.split {W : RS} {v : List Value} {C : qM} (h : RefC ba bl W v C) : ∃ C0 Cg pg cg, RefC0 ba bl W v C0 ∧ C = C0 ++ Cg ∧ v = k6 W ba bl (.slice pg W.gone.length cg) ∧ SlC 3 1 (.slice pg W.gone.length cg) W.gone.length (iV W.gone) Cg := by
  obtain ⟨ug, Cg, rfl, hs, rfl⟩ := h
  obtain ⟨pg, cg, rfl⟩ := hs.slice
  exact ⟨_, Cg, pg, cg, ⟨_, _, _, rfl, rfl⟩, rfl, rfl, hs⟩
def qZ (W : RS) (k : Int × Int) : Int :=
  if k.1 = 1 then (W.all k.2).at_ else if k.1 = 5 then (W.leaves k.2).at_ else if k.1 = 3 then W.sg.at_ else if k.1 = 4 then W.db.at_ else W.self.at_
theorem Wk (W : RS) (v : List Value) (C : qM) (hw : RefC0 ba bl W v C) (k : Int × Int) (hk : qo k) :
    FnT Tryz.prog w0 20 #[.agg v.toArray, .agg (wt k).toArray] (C :: F) (fun v L' => v = .int .i64 (qZ W k) ∧ L' = C :: F) := by
  obtain ⟨pg, gn, cg, hv, hC⟩ := hw
  rw [show wt k = [.int .i64 k.1, .int .i64 k.2] from rfl]
  refine FnT.enter (E0 := [(0, _), (1, _)]) (N := 38) Tryz.func20 rfl rfl rfl rfl ?_
  refine Tr.seq <| Tr.region <| qF (wT rfl) ?_
  rintro t2 _ ⟨b2, rfl, rfl⟩
  refine qF (wT rfl) ?_
  rintro t3 _ ⟨b3, rfl, rfl⟩
  refine q9 (qC rfl) <| qB <| QAt.seq <| Tr.seq <| Tr.seq <| Tr.region <| q9 (qD rfl) <| q9 (qG rfl rfl) <| qB <| QAt.seq <| Tr.block <| Tr.seq <| Tr.region <| q9 (wR rfl rfl) <| q9 (qC rfl) <| qB <| QAt.seq <| qI rfl (fun hc2 => ?_) (fun hc2 => ?_)
  ·
   refine Tr.seq ?_
   obtain ⟨i, hi, hlt⟩ := XY hk hc2
   refine Tr.region <| q9 (qD rfl) <| q9 (qG rfl (show wG v 5 = some (.slice (some ⟨ba, 0, none⟩) 1064 1064) by rw [hv]; rfl)) <| q9 (qD rfl) <| q9 (qG rfl rfl) <| q9 (qf (j := i) (off := i * 131) rfl rfl hi (by omega) (by simp)) ?_
   refine q9 (qk rfl) <| q9 (zX (j := i) (k := 1) (v := .int .i64 (W.all i).at_) zK rfl (show (ba, Obj.cells ((we W.all).flatMap wc ++ []).toArray 125 (0, 0)) ∈ List.flatten _ by rw [hC]; simp) (zn (by omega)) rfl rfl) <| q9 (qC rfl) <| qB <| QAt.seq <| Tr.ret <| qu <| qe <| qs (C :: F) (.inl rfl) rfl (qd rfl) ?_
   exact ⟨by unfold qZ; rw [if_pos hc2, hi], rfl⟩
  ·
   refine Tr.seq <| Tr.region <| q9 (wR rfl rfl) <| q9 (qC rfl) <| qB <| QAt.seq <| qI rfl (fun hc4 => ?_) (fun hc4 => ?_)
   ·
    refine Tr.seq ?_
    obtain ⟨i, hi, hlt⟩ := XX hk hc4
    refine Tr.region <| q9 (qD rfl) <| q9 (qG rfl (show wG v 6 = some (.slice (some ⟨bl, 0, none⟩) 32 32) by rw [hv]; rfl)) <| q9 (qD rfl) <| q9 (qG rfl rfl) <| q9 (qf (j := i) (off := i * 2) rfl rfl hi (by omega) (by simp)) ?_
    refine q9 (qk rfl) <| q9 (zX (j := i) (k := 0) (v := .int .i64 (W.leaves i).at_) zC rfl (show (bl, Obj.cells ((qx W.leaves).flatMap wb ++ []).toArray 38 (0, 0)) ∈ List.flatten _ by rw [hC]; simp) (wn (by omega)) rfl rfl) <| q9 (qC rfl) <| qB <| QAt.seq <| Tr.ret <| qu <| qe <| qs (C :: F) (.inl rfl) rfl (qd rfl) ?_
    exact ⟨by unfold qZ; rw [if_neg hc2, if_pos hc4, hi], rfl⟩
   ·
    refine Tr.seq <| Tr.region <| q9 (wR rfl rfl) <| q9 (qC rfl) <| qB <| QAt.seq <| qI rfl (fun hc6 => ?_) (fun hc6 => ?_)
    ·
     refine Tr.seq <| Tr.region <| q9 (qD rfl) <| q9 (qk rfl) <| q9 (qG rfl (show wG v 7 = some (.int .i64 W.sg.at_) by rw [hv]; rfl)) <| q9 (qC rfl) <| qB <| QAt.seq <| Tr.ret <| qu <| qe <| qs (C :: F) (.inl rfl) rfl (qd rfl) ?_
     exact ⟨by unfold qZ; rw [if_neg hc2, if_neg hc4, if_pos hc6], rfl⟩
    ·
     refine Tr.seq <| Tr.region <| q9 (wR rfl rfl) <| q9 (qC rfl) <| qB <| QAt.seq <| qI rfl (fun hc8 => ?_) (fun hc8 => ?_)
     ·
      refine Tr.seq <| Tr.region <| q9 (qD rfl) <| q9 (qk rfl) <| q9 (qG rfl (show wG v 9 = some (.int .i64 W.db.at_) by rw [hv]; rfl)) <| q9 (qC rfl) <| qB <| QAt.seq <| Tr.ret <| qu <| qe <| qs (C :: F) (.inl rfl) rfl (qd rfl) ?_
      exact ⟨by unfold qZ; rw [if_neg hc2, if_neg hc4, if_neg hc6, if_pos hc8], rfl⟩
     ·
      refine Tr.skip <| QAt.block <| QAt.seq <| Tr.seq <| Tr.region <| q9 (qD rfl) <| q9 (qk rfl) <| q9 (qG rfl (show wG v 11 = some (.int .i64 W.self.at_) by rw [hv]; rfl)) <| q9 (qC rfl) <| qB <| QAt.seq <| Tr.ret <| qs (C :: F) (.inl rfl) rfl (qd rfl) ?_
      exact ⟨by unfold qZ; rw [if_neg hc2, if_neg hc4, if_neg hc6, if_neg hc8], rfl⟩
theorem KP (W : RS) (v : List Value) (C : qM) (hw : RefC ba bl W v C) (k : Int × Int) (hk : qo k) :
    FnT Tryz.prog w0 20 #[.agg v.toArray, .agg (wt k).toArray] (C :: F) (fun v L' => v = .int .i64 (qZ W k) ∧ L' = C :: F) := by
  obtain ⟨C0, Cg, pg, cg, h0, rfl, -, -⟩ := hw.split
  exact QN (Wk (F := Cg :: F) W v C0 h0 k hk) (by simp)
def yu (W : RS) (k : Int × Int) (a : Int) : RS :=
  if k.1 = 1 then { W with all := upd W.all k.2 { W.all k.2 with at_ := a, fresh := false } }
  else if k.1 = 5 then { W with leaves := upd W.leaves k.2 ⟨a, false⟩ }
  else if k.1 = 3 then { W with sg := ⟨a, false⟩ }
  else if k.1 = 4 then { W with db := ⟨a, false⟩ }
  else { W with self := ⟨a, false⟩ }
theorem Q5 (W : RS) (v : List Value) (C : qM) (hw : RefC0 ba bl W v C) (k : Int × Int) (hk : qo k) (a : Int) :
    FnT Tryz.prog w0 76 #[.agg v.toArray, .agg (wt k).toArray, .int .i64 a] (C :: F) (fun v L' => ∃ l C', v = .agg l.toArray ∧ RefC0 ba bl (yu W k a) l C' ∧ L' = C' :: F) := by
  obtain ⟨pg, gn, cg, rfl, rfl⟩ := hw
  unfold k6
  rw [show wt k = [.int .i64 k.1, .int .i64 k.2] from rfl]
  refine FnT.pre (L' := [(ba, .cells ((we W.all).flatMap wc ++ []).toArray 125 (0, 0))] :: [(bl, .cells ((qx W.leaves).flatMap wb ++ []).toArray 38 (0, 0))] :: F) ?_ (wH (by simp))
  refine FnT.enter (E0 := [(0, _), (1, _), (2, _)]) (N := 47) Tryz.func76 rfl rfl rfl rfl ?_
  refine Tr.seq <| Tr.region <| qF (wT rfl) ?_
  rintro t3 _ ⟨b3, rfl, rfl⟩
  refine qF (wT rfl) ?_
  rintro t4 _ ⟨b4, rfl, rfl⟩
  refine qF (qV) ?_
  rintro t6 _ ⟨b6, rfl, rfl⟩
  refine qB <| QAt.seq <| zA (Γ := {pΓ : (RS) × (List Value) // (fun (X : RS) (v1 : List Value) => X = yu W k a ∧ v1 = k6 X ba bl (.slice pg gn cg)) pΓ.1 pΓ.2}) (fun g => (fun (X : RS) (v1 : List Value) => [(3, .pointer (some ⟨b3, 0, none⟩)), (6, .pointer (some ⟨b6, 0, none⟩))]) g.1.1 g.1.2) (fun g => (fun (X : RS) (v1 : List Value) => [(b3, .cells v1.toArray 41 (0, 0))] :: [(b6, .cells node0V.toArray 41 (0, 0))] :: [(ba, .cells ((we X.all).flatMap wc ++ []).toArray 125 (0, 0))] :: [(bl, .cells ((qx X.leaves).flatMap wb ++ []).toArray 38 (0, 0))] :: F) g.1.1 g.1.2) ?_ ?_
  ·
   refine Tr.seq <| Tr.region <| q9 (qD rfl) <| q9 (qG rfl rfl) <| qB <| QAt.seq <| Tr.block <| Tr.seq <| Tr.region <| q9 (wR rfl rfl) <| q9 (qC rfl) <| qB <| QAt.seq <| qI rfl (fun hc3 => ?_) (fun hc3 => ?_)
   ·
    refine Tr.seq ?_
    obtain ⟨i, hi, hlt⟩ := XY hk hc3
    refine Tr.region <| q9 (qD rfl) <| q9 (qG rfl rfl) <| q9 (qD rfl) <| q9 (qG rfl rfl) <| q9 (qA rfl) <| q9 (qf (j := i) (off := i * 131) rfl rfl hi (by omega) (by simp)) ?_
    refine q9 (qk rfl) <| qK (y6 (j := i) (k := 1) (p' := { W.all i with at_ := a }) zK rfl rfl (zn (by omega)) rfl rfl rfl) <| qB ?_
    rw [show (we W.all).set i { W.all i with at_ := a } = we (upd W.all (i : Int) { W.all i with at_ := a }) from zP]
    refine QAt.seq <| Tr.region <| q9 (qD rfl) <| q9 (qG rfl rfl) <| q9 (qD rfl) <| q9 (qG rfl rfl) <| q9 (qf (j := i) (off := i * 131) rfl rfl hi (by omega) (by simp)) ?_
    refine q9 (qk rfl) <| qK (y6 (j := i) (k := 2) (p := { W.all i with at_ := a }) (p' := { W.all i with at_ := a, fresh := false }) zK rfl rfl (by rw [zn (by omega), wx]) rfl rfl rfl) ?_
    refine qB <| QAt.block <| qO ⟨(yu W k a, k6 (yu W k a) ba bl (.slice pg gn cg)), ?_⟩ ?_
    · (try dsimp only); exact ⟨rfl, rfl⟩
    · (try dsimp only); exact (by rw [show ∀ (f : Int → Blk) (b : Blk), (we f).set i b = we (upd f (i : Int) b) from fun _ _ => zP, J4]; unfold k6 yu; rw [if_pos hc3, hi]; exact qP _)
   ·
    refine Tr.seq <| Tr.region <| q9 (wR rfl rfl) <| q9 (qC rfl) <| qB <| QAt.seq <| qI rfl (fun hc6 => ?_) (fun hc6 => ?_)
    ·
     obtain ⟨i, hi, hlt⟩ := XX hk hc6
     refine Tr.region <| q9 (qD rfl) <| q9 (qG rfl rfl) <| q9 (qD rfl) <| q9 (qG rfl rfl) <| q9 (qA rfl) <| q9 (wF rfl) <| q9 (qf (j := i) (off := i * 2) rfl rfl hi (by omega) (by simp)) ?_
     refine qK (wq (j := i) (p' := ⟨a, false⟩) zC rfl rfl rfl (wn (by omega)) rfl rfl) <| qB <| QAt.block <| qO ⟨(yu W k a, k6 (yu W k a) ba bl (.slice pg gn cg)), ?_⟩ ?_
     · (try dsimp only); exact ⟨rfl, rfl⟩
     · (try dsimp only); exact (by rw [show ∀ (f : Int → zk) (b : zk), (qx f).set i b = qx (upd f (i : Int) b) from fun _ _ => zP]; unfold k6 yu; rw [if_neg hc3, if_pos hc6, hi]; exact qP _)
    ·
     refine Tr.seq <| Tr.region <| q9 (wR rfl rfl) <| q9 (qC rfl) <| qB <| QAt.seq <| qI rfl (fun hc8 => ?_) (fun hc8 => ?_)
     ·
      refine Tr.region <| q9 (qA rfl) <| q9 (wF rfl) <| q9 (qD rfl) <| qK (wJ rfl rfl rfl rfl) <| qB <| QAt.block <| qO ⟨(yu W k a, k6 (yu W k a) ba bl (.slice pg gn cg)), ?_⟩ ?_
      · (try dsimp only); exact ⟨rfl, rfl⟩
      · (try dsimp only); exact (by unfold k6 yu; rw [if_neg hc3, if_neg hc6, if_pos hc8]; exact qP _)
     ·
      refine Tr.seq <| Tr.region <| q9 (wR rfl rfl) <| q9 (qC rfl) <| qB <| QAt.seq <| qI rfl (fun hc10 => ?_) (fun hc10 => ?_)
      ·
       refine Tr.region <| q9 (qA rfl) <| q9 (wF rfl) <| q9 (qD rfl) <| qK (wJ rfl rfl rfl rfl) <| qB <| QAt.block <| qO ⟨(yu W k a, k6 (yu W k a) ba bl (.slice pg gn cg)), ?_⟩ ?_
       · (try dsimp only); exact ⟨rfl, rfl⟩
       · (try dsimp only); exact (by unfold k6 yu; rw [if_neg hc3, if_neg hc6, if_neg hc8, if_pos hc10]; exact qP _)
      ·
       refine Tr.region <| q9 (qA rfl) <| q9 (wF rfl) <| q9 (qD rfl) <| qK (wJ rfl rfl rfl rfl) <| qB <| QAt.block <| qO ⟨(yu W k a, k6 (yu W k a) ba bl (.slice pg gn cg)), ?_⟩ ?_
       · (try dsimp only); exact ⟨rfl, rfl⟩
       · (try dsimp only); exact (by unfold k6 yu; rw [if_neg hc3, if_neg hc6, if_neg hc8, if_neg hc10]; exact qP _)
  rintro ⟨⟨X, v1⟩, hcut⟩
  replace hcut : X = yu W k a ∧ v1 = k6 X ba bl (.slice pg gn cg) := hcut
  obtain ⟨hX, hv1⟩ := hcut
  show Tr _ _ _ ([(3, .pointer (some ⟨b3, 0, none⟩)), (6, .pointer (some ⟨b6, 0, none⟩))]) ([(b3, .cells v1.toArray 41 (0, 0))] :: [(b6, .cells node0V.toArray 41 (0, 0))] :: [(ba, .cells ((we X.all).flatMap wc ++ []).toArray 125 (0, 0))] :: [(bl, .cells ((qx X.leaves).flatMap wb ++ []).toArray 38 (0, 0))] :: F) _ _
  refine Tr.seq <| Tr.region <| q9 (w7 rfl (by rw [hv1]; rfl)) ?_
  refine qK (qW rfl rfl rfl (by rw [hv1]; rfl) (by rw [hv1]; rfl)) ?_
  refine qB <| z8 (L' := [(b6, .cells v1.toArray 41 (0, 0))] :: ((ba, .cells ((we X.all).flatMap wc ++ []).toArray 125 (0, 0)) :: (bl, .cells ((qx X.leaves).flatMap wb ++ []).toArray 38 (0, 0)) :: []) :: F) (fun w hw => wH (by simp) w hw.tail) ?_
  refine QAt.seq <| Tr.ret <| qs (((ba, .cells ((we X.all).flatMap wc ++ []).toArray 125 (0, 0)) :: (bl, .cells ((qx X.leaves).flatMap wb ++ []).toArray 38 (0, 0)) :: []) :: F) (.inl rfl) rfl (z7 rfl (by rw [hv1]; rfl)) ?_
  exact ⟨_, _, rfl, ⟨_, _, _, by rw [← hX]; exact hv1, by rw [← hX]⟩, rfl⟩
def y4 (W : RS) (k : Int × Int) : RS :=
  if k.1 = 1 then { W with all := upd W.all k.2 { W.all k.2 with fresh := true } }
  else if k.1 = 5 then { W with leaves := upd W.leaves k.2 ⟨(W.leaves k.2).at_, true⟩ }
  else if k.1 = 3 then { W with sg := ⟨W.sg.at_, true⟩ }
  else if k.1 = 4 then { W with db := ⟨W.db.at_, true⟩ }
  else { W with self := ⟨W.self.at_, true⟩ }
theorem Ji (W : RS) (v : List Value) (C : qM) (hw : RefC ba bl W v C) (k : Int × Int) (hk : qo k) :
    FnT Tryz.prog w0 34 #[.agg v.toArray, .agg (wt k).toArray] (C :: F) (fun v L' => ∃ l C', v = .agg l.toArray ∧ RefC ba bl (y4 W k) l C' ∧ L' = C' :: F) := by
  obtain ⟨pg, cg, Cg, rfl, hs, rfl⟩ := hw.at
  unfold k6
  rw [show wt k = [.int .i64 k.1, .int .i64 k.2] from rfl]
  refine FnT.pre (L' := [(ba, .cells ((we W.all).flatMap wc ++ []).toArray 125 (0, 0))] :: [(bl, .cells ((qx W.leaves).flatMap wb ++ []).toArray 38 (0, 0))] :: Cg :: F) ?_ (wH (by simp))
  refine FnT.enter (E0 := [(0, _), (1, _)]) (N := 34) Tryz.func34 rfl rfl rfl rfl ?_
  refine Tr.seq <| Tr.region <| qF (wT rfl) ?_
  rintro t2 _ ⟨b2, rfl, rfl⟩
  refine qF (wT rfl) ?_
  rintro t3 _ ⟨b3, rfl, rfl⟩
  refine qF (qV) ?_
  rintro t4 _ ⟨b4, rfl, rfl⟩
  refine qB <| QAt.seq <| zA (Γ := {pΓ : (RS) × (List Value) // (fun (X : RS) (v1 : List Value) => X = y4 W k ∧ v1 = k6 X ba bl (.slice pg W.gone.length cg)) pΓ.1 pΓ.2}) (fun g => (fun (X : RS) (v1 : List Value) => [(2, .pointer (some ⟨b2, 0, none⟩)), (4, .pointer (some ⟨b4, 0, none⟩))]) g.1.1 g.1.2) (fun g => (fun (X : RS) (v1 : List Value) => [(b2, .cells v1.toArray 41 (0, 0))] :: [(b4, .cells node0V.toArray 41 (0, 0))] :: [(ba, .cells ((we X.all).flatMap wc ++ []).toArray 125 (0, 0))] :: [(bl, .cells ((qx X.leaves).flatMap wb ++ []).toArray 38 (0, 0))] :: Cg :: F) g.1.1 g.1.2) ?_ ?_
  ·
   refine Tr.seq <| Tr.region <| q9 (qD rfl) <| q9 (qG rfl rfl) <| qB <| QAt.seq <| Tr.block <| Tr.seq <| Tr.region <| q9 (wR rfl rfl) <| q9 (qC rfl) <| qB <| QAt.seq <| qI rfl (fun hc3 => ?_) (fun hc3 => ?_)
   ·
    obtain ⟨i, hi, hlt⟩ := XY hk hc3
    refine Tr.region <| q9 (qD rfl) <| q9 (qG rfl rfl) <| q9 (qD rfl) <| q9 (qG rfl rfl) <| q9 (qf (j := i) (off := i * 131) rfl rfl hi (by omega) (by simp)) ?_
    refine q9 (qk rfl) <| qK (y6 (j := i) (k := 2) (p' := { W.all i with fresh := true }) zK rfl rfl (zn (by omega)) rfl rfl rfl) <| qB <| QAt.block <| qO ⟨(y4 W k, k6 (y4 W k) ba bl (.slice pg W.gone.length cg)), ?_⟩ ?_
    · (try dsimp only); exact ⟨rfl, rfl⟩
    · (try dsimp only); exact (by rw [show ∀ (f : Int → Blk) (b : Blk), (we f).set i b = we (upd f (i : Int) b) from fun _ _ => zP]; unfold k6 y4; rw [if_pos hc3, hi]; exact qP _)
   ·
    refine Tr.seq <| Tr.region <| q9 (wR rfl rfl) <| q9 (qC rfl) <| qB <| QAt.seq <| qI rfl (fun hc5 => ?_) (fun hc5 => ?_)
    ·
     obtain ⟨i, hi, hlt⟩ := XX hk hc5
     refine Tr.region <| q9 (qD rfl) <| q9 (qG rfl rfl) <| q9 (qD rfl) <| q9 (qG rfl rfl) <| q9 (qf (j := i) (off := i * 2) rfl rfl hi (by omega) (by simp)) ?_
     refine q9 (qk rfl) <| qK (y6 (j := i) (k := 1) (p' := ⟨(W.leaves i).at_, true⟩) zC rfl rfl (wn (by omega)) rfl rfl rfl) <| qB <| QAt.block <| qO ⟨(y4 W k, k6 (y4 W k) ba bl (.slice pg W.gone.length cg)), ?_⟩ ?_
     · (try dsimp only); exact ⟨rfl, rfl⟩
     · (try dsimp only); exact (by rw [show ∀ (f : Int → zk) (b : zk), (qx f).set i b = qx (upd f (i : Int) b) from fun _ _ => zP]; unfold k6 y4; rw [if_neg hc3, if_pos hc5, hi]; exact qP _)
    ·
     refine Tr.seq <| Tr.region <| q9 (wR rfl rfl) <| q9 (qC rfl) <| qB <| QAt.seq <| qI rfl (fun hc7 => ?_) (fun hc7 => ?_)
     ·
      refine Tr.region <| q9 (qD rfl) <| q9 (qk rfl) <| qK (wX rfl rfl rfl) <| qB <| QAt.block <| qO ⟨(y4 W k, k6 (y4 W k) ba bl (.slice pg W.gone.length cg)), ?_⟩ ?_
      · (try dsimp only); exact ⟨rfl, rfl⟩
      · (try dsimp only); exact (by unfold k6 y4; rw [if_neg hc3, if_neg hc5, if_pos hc7]; exact qP _)
     ·
      refine Tr.seq <| Tr.region <| q9 (wR rfl rfl) <| q9 (qC rfl) <| qB <| QAt.seq <| qI rfl (fun hc9 => ?_) (fun hc9 => ?_)
      ·
       refine Tr.region <| q9 (qD rfl) <| q9 (qk rfl) <| qK (wX rfl rfl rfl) <| qB <| QAt.block <| qO ⟨(y4 W k, k6 (y4 W k) ba bl (.slice pg W.gone.length cg)), ?_⟩ ?_
       · (try dsimp only); exact ⟨rfl, rfl⟩
       · (try dsimp only); exact (by unfold k6 y4; rw [if_neg hc3, if_neg hc5, if_neg hc7, if_pos hc9]; exact qP _)
      ·
       refine Tr.region <| q9 (qD rfl) <| q9 (qk rfl) <| qK (wX rfl rfl rfl) <| qB <| QAt.block <| qO ⟨(y4 W k, k6 (y4 W k) ba bl (.slice pg W.gone.length cg)), ?_⟩ ?_
       · (try dsimp only); exact ⟨rfl, rfl⟩
       · (try dsimp only); exact (by unfold k6 y4; rw [if_neg hc3, if_neg hc5, if_neg hc7, if_neg hc9]; exact qP _)
  rintro ⟨⟨X, v1⟩, hcut⟩
  replace hcut : X = y4 W k ∧ v1 = k6 X ba bl (.slice pg W.gone.length cg) := hcut
  obtain ⟨hX, hv1⟩ := hcut
  show Tr _ _ _ ([(2, .pointer (some ⟨b2, 0, none⟩)), (4, .pointer (some ⟨b4, 0, none⟩))]) ([(b2, .cells v1.toArray 41 (0, 0))] :: [(b4, .cells node0V.toArray 41 (0, 0))] :: [(ba, .cells ((we X.all).flatMap wc ++ []).toArray 125 (0, 0))] :: [(bl, .cells ((qx X.leaves).flatMap wb ++ []).toArray 38 (0, 0))] :: Cg :: F) _ _
  refine Tr.seq ?_
  have hg : X.gone = W.gone := by rw [hX]; unfold y4; split <;> first | rfl | (split <;> first | rfl | (split <;> first | rfl | (split <;> rfl)))
  refine Tr.region <| q9 (w7 rfl (by rw [hv1]; rfl)) ?_
  refine qK (qW rfl rfl rfl (by rw [hv1]; rfl) (by rw [hv1]; rfl)) ?_
  refine qB <| z8 (L' := [(b4, .cells v1.toArray 41 (0, 0))] :: ((ba, .cells ((we X.all).flatMap wc ++ []).toArray 125 (0, 0)) :: (bl, .cells ((qx X.leaves).flatMap wb ++ []).toArray 38 (0, 0)) :: Cg) :: F) (fun w hw => wH (by simp) w hw.tail) ?_
  refine QAt.seq <| Tr.ret <| qs (((ba, .cells ((we X.all).flatMap wc ++ []).toArray 125 (0, 0)) :: (bl, .cells ((qx X.leaves).flatMap wb ++ []).toArray 38 (0, 0)) :: Cg) :: F) (.inl rfl) rfl (z7 rfl (by rw [hv1]; rfl)) ?_
  exact ⟨_, _, rfl, ⟨_, Cg, by rw [← hX]; exact hv1, by rw [← hX, hg]; exact hs, by rw [← hX]⟩, rfl⟩
theorem flat_sub {α : Type} {enc : α → List Value} {sz : Nat} (he : ∀ x, (enc x).length = sz) (xs : List α) (r : List Value) {j : Nat} {p : α} (hj : xs[j]? = some p) {k n : Nat} (hkn : k + n ≤ sz) :
    ((xs.flatMap enc ++ r).drop (j * sz + k)).take n = ((enc p).drop k).take n := by
  have h := QD he xs r hj
  rw [← List.drop_drop, ← h, List.drop_take, List.take_take, Nat.min_eq_left (by omega)]
theorem xh {P : Program} {N : Nat} {E : Env} {α : Type} {enc : α → List Value} {x : Operand} {t ty sz n : TypeId} {b off j k : Nat} {xs : List α} {r q : List Value} {e : TypeId} {fr : Nat × Nat} {p : α} [ht : TyAgg P t n]
    (he : ∀ x, (enc x).length = sz) (hx : opv E x = some (.pointer (some ⟨b, off, none⟩))) (hm : (b, .cells (xs.flatMap enc ++ r).toArray e fr) ∈ L.flatten) (hj : xs[j]? = some p) (ho : off = j * sz + k) (hkn : k + n ≤ sz) (hq : ((enc p).drop k).take n = q) :
    Op1 P N w0 E L (.load t x) ty (.agg q.toArray) L :=
  yZ hx hm (by subst ho; rw [← hq]; exact flat_sub he xs r hj hkn) (by
    have hlt := (List.getElem?_eq_some_iff.1 hj).1
    have h1 := yy he xs
    have h2 : (j + 1) * sz ≤ xs.length * sz := Nat.mul_le_mul_right _ hlt
    rw [Nat.add_mul] at h2
    simp [ho]; rw [← List.length_flatMap, h1]; omega)
open Classical in
noncomputable def We (l : List Int) : Sec := if h : j2 l then jU l h else Sec.zero
open Classical in
noncomputable def Xf (x : Ino) : Sec := if h : x.Ok then ZA x h else Sec.zero
theorem Qz {l : List Int} (h : j2 l) : We l = jU l h := by unfold We; rw [dif_pos h]
theorem Yx {x : Ino} (h : x.Ok) : Xf x = ZA x h := by unfold Xf; rw [dif_pos h]
def zZ (W : RS) (h : Int → Int × Int) : List Int := (List.range 32).map fun j : Nat => qZ W (h j)
def kv (W : RS) : Ino := ⟨W.num, W.ver, W.kind, W.size, W.time, (List.range 8).map (fun j : Nat => qZ W (1, j)), W.sg.at_, W.db.at_⟩
noncomputable def wd (W : RS) (k : Int × Int) : Sec :=
  if k.1 = 1 then (W.all k.2).s
  else if k.1 = 5 then We (zZ W (z6 2 k.2))
  else if k.1 = 3 then We (zZ W (z6 1 0))
  else if k.1 = 4 then We (zZ W (fun j => (5, j)))
  else Xf (kv W)
structure ROk (W : RS) : Prop where
  num : 0 ≤ W.num ∧ W.num < 65536
  ver : 0 ≤ W.ver ∧ W.ver < 4294967296
  kind : 1 ≤ W.kind ∧ W.kind ≤ 2
  size : 0 ≤ W.size ∧ W.size ≤ 136192
  time : 0 ≤ W.time ∧ W.time < 4294967296
  at_ : ∀ k, qo k → 0 ≤ qZ W k ∧ qZ W k ≤ 65535
theorem WW {W : RS} (h : ROk W) {f : Int → Int × Int} (hf : ∀ j : Nat, j < 32 → qo (f j)) : j2 (zZ W f) := ⟨by simp [zZ], fun a ha => by
  obtain ⟨j, hj, rfl⟩ := List.mem_map.1 ha
  exact h.at_ _ (hf j (by simpa using hj))⟩
theorem YQ {W : RS} (h : ROk W) : (kv W).Ok := by
  have hs := h.size
  refine ⟨h.num, h.ver, h.kind, ?_, h.time, by simp [kv], fun a ha => ?_, ?_, ?_⟩
  · show 0 ≤ W.size ∧ W.size < _; omega
  · obtain ⟨j, hj, rfl⟩ := List.mem_map.1 ha
    have hj : j < 8 := by simpa using hj
    have := h.at_ (1, j) (.inl ⟨rfl, by dsimp only; omega, by dsimp only; omega⟩); omega
  · have : _ ∧ _ := h.at_ (3, 0) (.inr (.inr (.inl rfl))); show 0 ≤ W.sg.at_ ∧ W.sg.at_ < 4294967296
    rw [show qZ W (3, 0) = W.sg.at_ from rfl] at this; omega
  · have : _ ∧ _ := h.at_ (4, 0) (.inr (.inr (.inr (.inl rfl)))); show 0 ≤ W.db.at_ ∧ W.db.at_ < 4294967296
    rw [show qZ W (4, 0) = W.db.at_ from rfl] at this; omega
theorem xm {l f : Int} (h : l = 1 ∧ f = 0 ∨ l = 2 ∧ 0 ≤ f ∧ f < 32) (j : Nat) (hj : j < 32) : qo (z6 l f j) := by
  refine .inl ⟨rfl, ?_, ?_⟩ <;> unfold z6 <;> dsimp only <;> rcases h with ⟨rfl, rfl⟩ | ⟨rfl, h⟩ <;> simp <;> omega
theorem Y0 (W : RS) (l f : Int) (j : Int) : qZ W (z6 l f j) = (W.all ((if l = 0 then 0 else if l = 1 then 8 else 40) + f * 32 + j)).at_ := rfl
theorem kF (W : RS) (j : Int) : qZ W (5, j) = (W.leaves j).at_ := rfl
theorem zo (W : RS) (j : Int) : qZ W (1, j) = (W.all j).at_ := rfl
theorem QJ (W : RS) (h : Int → Int × Int) {j : Nat} (hj : j < 32) : (zZ W h)[j]? = some (qZ W (h j)) := by simp [zZ, hj]
instance (priority := high) : TyZero Tryz.prog 183 (.agg (zw V0).toArray) := .of (by kernel_rfl)
theorem Yf (W : RS) (v : List Value) (C : qM) (hw : RefC0 ba bl W v C) (hr : ROk W) (k : Int × Int) (hk : qo k) :
    FnT Tryz.prog w0 77 #[.agg v.toArray, .agg (wt k).toArray] (C :: F) (fun v L' => v = .agg (wW (wd W k)).toArray ∧ L' = C :: F) := by
  obtain ⟨pg, gn, cg, hv, hC⟩ := hw
  obtain ⟨l8, hl8⟩ : ∃ l, (List.range 8).map (fun j : Nat => qZ W (1, j)) = l := ⟨_, rfl⟩
  have hlen8 : l8.length = 8 := by rw [← hl8]; simp
  have hget8 : ∀ j : Nat, j < 8 → l8[j]? = some ((W.all j).at_) := fun j hj => by rw [← hl8]; simp [hj]; rfl
  rw [show wt k = [.int .i64 k.1, .int .i64 k.2] from rfl]
  refine FnT.enter (E0 := [(0, _), (1, _)]) (N := 116) Tryz.func77 rfl rfl rfl rfl ?_
  refine Tr.seq <| Tr.region <| qF (wT rfl) ?_
  rintro t2 _ ⟨b2, rfl, rfl⟩
  refine qF (wT rfl) ?_
  rintro t3 _ ⟨b3, rfl, rfl⟩
  refine qF (qV) ?_
  rintro t4 _ ⟨b4, rfl, rfl⟩
  refine qB <| QAt.seq <| Tr.seq <| Tr.region <| qF (qV) ?_
  rintro t5 _ ⟨b5, rfl, rfl⟩
  refine qB <| QAt.seq <| zA (Γ := {pΓ : (List Int) // (fun (l : List Int) => We l = wd W k ∧ j2 l) pΓ}) (fun g => (fun (l : List Int) => [(4, .pointer (some ⟨b4, 0, none⟩)), (5, .pointer (some ⟨b5, 0, none⟩))]) g.1) (fun g => (fun (l : List Int) => [(b4, .cells (wW Sec.zero).toArray 54 (0, 0))] :: [(b5, .cells (iV l).toArray 175 (0, 0))] :: C :: F) g.1) ?_ ?_
  ·
   refine Tr.seq <| Tr.region <| q9 (qD rfl) <| q9 (qG rfl rfl) <| qB <| QAt.seq <| Tr.block <| Tr.seq <| Tr.region <| q9 (wR rfl rfl) <| q9 (qC rfl) <| qB <| QAt.seq <| qI rfl (fun hc10 => ?_) (fun hc10 => ?_)
   ·
    refine Tr.seq ?_
    obtain ⟨i, hi, hlt⟩ := XY hk hc10
    refine Tr.region <| q9 (qD rfl) <| q9 (qG rfl (show wG v 5 = some (.slice (some ⟨ba, 0, none⟩) 1064 1064) by rw [hv]; rfl)) <| q9 (qD rfl) <| q9 (qG rfl rfl) <| q9 (qf (j := i) (off := i * 131) rfl rfl hi (by omega) (by simp)) ?_
    refine q9 (qk rfl) <| q9 (xh (j := i) (k := 3) (q := wW (W.all i).s) zK rfl (show (ba, Obj.cells ((we W.all).flatMap wc ++ []).toArray 125 (0, 0)) ∈ List.flatten _ by rw [hC]; simp) (zn (by omega)) rfl (by decide) (by rw [show (wc (W.all i)).drop 3 = wW (W.all i).s from rfl, List.take_of_length_le (by simp)])) ?_
    refine qK (qW rfl rfl (by simp) (by simp) (wS _)) ?_
    refine qB <| QAt.seq <| Tr.ret <| qu <| ya <| qs (C :: F) (.inl rfl) rfl (z7 rfl (by simp)) ?_
    exact ⟨by unfold wd; rw [if_pos hc10, hi], rfl⟩
   ·
    refine Tr.seq <| Tr.region <| q9 (wR rfl rfl) <| q9 (qC rfl) <| qB <| QAt.seq <| qI rfl (fun hc12 => ?_) (fun hc12 => ?_)
    ·
     refine Tr.seq ?_
     obtain ⟨q, hq, hlt⟩ := XX hk hc12
     refine Tr.region <| q9 (qC rfl) <| qB <| QAt.seq <| Tr.block <| wB (Γ := {pΓ : (Nat) // (fun (i : Nat) => i ≤ 32) pΓ}) (fun g => (fun (i : Nat) => [(2, .pointer (some ⟨b2, 0, none⟩)), (3, .pointer (some ⟨b3, 0, none⟩)), (4, .pointer (some ⟨b4, 0, none⟩)), (5, .pointer (some ⟨b5, 0, none⟩)), (6, .int .i64 i)]) g.1) (fun g => (fun (i : Nat) => [(b5, .cells (iV ((zZ W (z6 2 k.2)).take i) ++ List.replicate (32 - i) (Value.int .i64 0)).toArray 175 (0, 0))] :: [(b4, .cells (wW Sec.zero).toArray 54 (0, 0))] :: [(b3, .cells [.int .i64 k.1, .int .i64 k.2].toArray 65 (0, 0))] :: [(b2, .cells v.toArray 41 (0, 0))] :: C :: F) g.1) (fun g => (fun (i : Nat) => 32 - i) g.1) ⟨0, by dsimp only; exact (by omega)⟩ (y7 rfl) ?_
     rintro ⟨i, hloop⟩
     replace hloop : i ≤ 32 := hloop
     obtain hi := hloop
     show Tr _ _ _ ([(2, .pointer (some ⟨b2, 0, none⟩)), (3, .pointer (some ⟨b3, 0, none⟩)), (4, .pointer (some ⟨b4, 0, none⟩)), (5, .pointer (some ⟨b5, 0, none⟩)), (6, .int .i64 i)]) ([(b5, .cells (iV ((zZ W (z6 2 k.2)).take i) ++ List.replicate (32 - i) (Value.int .i64 0)).toArray 175 (0, 0))] :: [(b4, .cells (wW Sec.zero).toArray 54 (0, 0))] :: [(b3, .cells [.int .i64 k.1, .int .i64 k.2].toArray 65 (0, 0))] :: [(b2, .cells v.toArray 41 (0, 0))] :: C :: F) _ _
     refine Tr.seq <| Tr.seq <| Tr.region <| q9 (qA rfl) <| q9 (qv rfl rfl) <| qB <| QAt.seq <| qI rfl (fun hc14 => ?_) (fun hc14 => ?_)
     ·
      refine Tr.skip <| QAt.seq <| Tr.seq <| Tr.block ?_
      have ha : (zZ W (z6 2 k.2))[i]? = some ((W.all ((40 + 32 * q + i : Nat) : Int)).at_) := by rw [QJ _ _ (by omega), Y0]; congr 3; rw [hq]; simp; omega
      refine Tr.region <| q9 (qA rfl) <| q9 (qD rfl) <| q9 (qG rfl (show wG v 5 = some (.slice (some ⟨ba, 0, none⟩) 1064 1064) by rw [hv]; rfl)) <| q9 (qD rfl) <| q9 (qG rfl rfl) <| q9 (jX rfl rfl (by omega)) <| q9 (qj rfl rfl (by omega)) <| q9 (qA rfl) <| q9 (qj rfl rfl (by omega)) <| q9 (qf (j := 40 + 32 * q + i) (off := (40 + 32 * q + i) * 131) rfl rfl (by omega) (by omega) (by simp)) ?_
      refine q9 (qk rfl) <| q9 (zX (j := 40 + 32 * q + i) (k := 1) (v := .int .i64 (W.all ((40 + 32 * q + i : Nat) : Int)).at_) zK rfl (show (ba, Obj.cells ((we W.all).flatMap wc ++ []).toArray 125 (0, 0)) ∈ List.flatten _ by rw [hC]; simp) (zn (by omega)) rfl rfl) <| q9 (wO (j := i) (off := i * 1) rfl rfl rfl (by omega) (by simp)) ?_
      refine qK (zx rfl rfl (by simp [zZ]; omega) rfl) ?_
      refine qB <| QAt.block <| QAt.seq <| Tr.region <| q9 (qA rfl) <| q9 (qj rfl rfl (by omega)) <| q9 (qC rfl) <| qB <| qh ⟨i + 1, ?_⟩ ?_ ?_
      · (try dsimp only); omega
      · (try dsimp only); omega
      · (try dsimp only); exact y7 (by rw [ZD ha (by omega)])
     ·
      refine Tr.exit <| qX <| qY <| qS <| QAt.block <| qO ⟨zZ W (z6 2 k.2), ?_⟩ ?_
      · (try dsimp only); exact ⟨by unfold wd; rw [if_neg (by omega), if_pos hc12], WW hr (fun j hj => xm (.inr ⟨rfl, by omega, by omega⟩) j hj)⟩
      · (try dsimp only); exact (by obtain rfl : i = 32 := (by omega); rw [List.take_of_length_le (by simp [zZ]), Nat.sub_self, List.replicate_zero, List.append_nil]; exact qP _)
    ·
     refine Tr.seq <| Tr.region <| q9 (wR rfl rfl) <| q9 (qC rfl) <| qB <| QAt.seq <| qI rfl (fun hc17 => ?_) (fun hc17 => ?_)
     ·
      refine Tr.seq <| Tr.region <| q9 (qC rfl) <| qB <| QAt.seq <| Tr.block <| wB (Γ := {pΓ : (Nat) // (fun (i : Nat) => i ≤ 32) pΓ}) (fun g => (fun (i : Nat) => [(2, .pointer (some ⟨b2, 0, none⟩)), (3, .pointer (some ⟨b3, 0, none⟩)), (4, .pointer (some ⟨b4, 0, none⟩)), (5, .pointer (some ⟨b5, 0, none⟩)), (7, .int .i64 i)]) g.1) (fun g => (fun (i : Nat) => [(b5, .cells (iV ((zZ W (z6 1 0)).take i) ++ List.replicate (32 - i) (Value.int .i64 0)).toArray 175 (0, 0))] :: [(b4, .cells (wW Sec.zero).toArray 54 (0, 0))] :: [(b3, .cells [.int .i64 k.1, .int .i64 k.2].toArray 65 (0, 0))] :: [(b2, .cells v.toArray 41 (0, 0))] :: C :: F) g.1) (fun g => (fun (i : Nat) => 32 - i) g.1) ⟨0, by dsimp only; exact (by omega)⟩ (y7 rfl) ?_
      rintro ⟨i, hloop⟩
      replace hloop : i ≤ 32 := hloop
      obtain hi := hloop
      show Tr _ _ _ ([(2, .pointer (some ⟨b2, 0, none⟩)), (3, .pointer (some ⟨b3, 0, none⟩)), (4, .pointer (some ⟨b4, 0, none⟩)), (5, .pointer (some ⟨b5, 0, none⟩)), (7, .int .i64 i)]) ([(b5, .cells (iV ((zZ W (z6 1 0)).take i) ++ List.replicate (32 - i) (Value.int .i64 0)).toArray 175 (0, 0))] :: [(b4, .cells (wW Sec.zero).toArray 54 (0, 0))] :: [(b3, .cells [.int .i64 k.1, .int .i64 k.2].toArray 65 (0, 0))] :: [(b2, .cells v.toArray 41 (0, 0))] :: C :: F) _ _
      refine Tr.seq <| Tr.seq <| Tr.region <| q9 (qA rfl) <| q9 (qv rfl rfl) <| qB <| QAt.seq <| qI rfl (fun hc19 => ?_) (fun hc19 => ?_)
      ·
       refine Tr.skip <| QAt.seq <| Tr.seq <| Tr.block ?_
       have ha : (zZ W (z6 1 0))[i]? = some ((W.all ((8 + i : Nat) : Int)).at_) := by rw [QJ _ _ (by omega), Y0]; congr 3
       refine Tr.region <| q9 (qA rfl) <| q9 (qD rfl) <| q9 (qG rfl (show wG v 5 = some (.slice (some ⟨ba, 0, none⟩) 1064 1064) by rw [hv]; rfl)) <| q9 (qA rfl) <| q9 (qj rfl rfl (by omega)) <| q9 (qf (j := 8 + i) (off := (8 + i) * 131) rfl rfl (by omega) (by omega) (by simp)) ?_
       refine q9 (qk rfl) <| q9 (zX (j := 8 + i) (k := 1) (v := .int .i64 (W.all ((8 + i : Nat) : Int)).at_) zK rfl (show (ba, Obj.cells ((we W.all).flatMap wc ++ []).toArray 125 (0, 0)) ∈ List.flatten _ by rw [hC]; simp) (zn (by omega)) rfl rfl) <| q9 (wO (j := i) (off := i * 1) rfl rfl rfl (by omega) (by simp)) ?_
       refine qK (zx rfl rfl (by simp [zZ]; omega) rfl) ?_
       refine qB <| QAt.block <| QAt.seq <| Tr.region <| q9 (qA rfl) <| q9 (qj rfl rfl (by omega)) <| q9 (qC rfl) <| qB <| qh ⟨i + 1, ?_⟩ ?_ ?_
       · (try dsimp only); omega
       · (try dsimp only); omega
       · (try dsimp only); exact y7 (by rw [ZD ha (by omega)])
      ·
       refine Tr.exit <| qX <| qY <| qS <| QAt.block <| qO ⟨zZ W (z6 1 0), ?_⟩ ?_
       · (try dsimp only); exact ⟨by unfold wd; rw [if_neg (by omega), if_neg (by omega), if_pos hc17], WW hr (fun j hj => xm (.inl ⟨rfl, rfl⟩) j hj)⟩
       · (try dsimp only); exact (by obtain rfl : i = 32 := (by omega); rw [List.take_of_length_le (by simp [zZ]), Nat.sub_self, List.replicate_zero, List.append_nil]; exact qP _)
     ·
      refine Tr.seq <| Tr.region <| q9 (wR rfl rfl) <| q9 (qC rfl) <| qB <| QAt.seq <| qI rfl (fun hc22 => ?_) (fun hc22 => ?_)
      ·
       refine Tr.seq <| Tr.region <| q9 (qC rfl) <| qB <| QAt.seq <| Tr.block <| wB (Γ := {pΓ : (Nat) // (fun (i : Nat) => i ≤ 32) pΓ}) (fun g => (fun (i : Nat) => [(2, .pointer (some ⟨b2, 0, none⟩)), (3, .pointer (some ⟨b3, 0, none⟩)), (4, .pointer (some ⟨b4, 0, none⟩)), (5, .pointer (some ⟨b5, 0, none⟩)), (8, .int .i64 i)]) g.1) (fun g => (fun (i : Nat) => [(b5, .cells (iV ((zZ W (fun j => (5, j))).take i) ++ List.replicate (32 - i) (Value.int .i64 0)).toArray 175 (0, 0))] :: [(b4, .cells (wW Sec.zero).toArray 54 (0, 0))] :: [(b3, .cells [.int .i64 k.1, .int .i64 k.2].toArray 65 (0, 0))] :: [(b2, .cells v.toArray 41 (0, 0))] :: C :: F) g.1) (fun g => (fun (i : Nat) => 32 - i) g.1) ⟨0, by dsimp only; exact (by omega)⟩ (y7 rfl) ?_
       rintro ⟨i, hloop⟩
       replace hloop : i ≤ 32 := hloop
       obtain hi := hloop
       show Tr _ _ _ ([(2, .pointer (some ⟨b2, 0, none⟩)), (3, .pointer (some ⟨b3, 0, none⟩)), (4, .pointer (some ⟨b4, 0, none⟩)), (5, .pointer (some ⟨b5, 0, none⟩)), (8, .int .i64 i)]) ([(b5, .cells (iV ((zZ W (fun j => (5, j))).take i) ++ List.replicate (32 - i) (Value.int .i64 0)).toArray 175 (0, 0))] :: [(b4, .cells (wW Sec.zero).toArray 54 (0, 0))] :: [(b3, .cells [.int .i64 k.1, .int .i64 k.2].toArray 65 (0, 0))] :: [(b2, .cells v.toArray 41 (0, 0))] :: C :: F) _ _
       refine Tr.seq <| Tr.seq <| Tr.region <| q9 (qA rfl) <| q9 (qv rfl rfl) <| qB <| QAt.seq <| qI rfl (fun hc24 => ?_) (fun hc24 => ?_)
       ·
        refine Tr.skip <| QAt.seq <| Tr.seq <| Tr.block ?_
        have ha : (zZ W (fun j => (5, j)))[i]? = some ((W.leaves i).at_) := by rw [QJ _ _ (by omega), kF]
        refine Tr.region <| q9 (qA rfl) <| q9 (qD rfl) <| q9 (qG rfl (show wG v 6 = some (.slice (some ⟨bl, 0, none⟩) 32 32) by rw [hv]; rfl)) <| q9 (qA rfl) <| q9 (qf (j := i) (off := i * 2) rfl rfl rfl (by omega) (by simp)) ?_
        refine q9 (qk rfl) <| q9 (zX (j := i) (k := 0) (v := .int .i64 (W.leaves i).at_) zC rfl (show (bl, Obj.cells ((qx W.leaves).flatMap wb ++ []).toArray 38 (0, 0)) ∈ List.flatten _ by rw [hC]; simp) (wn (by omega)) rfl rfl) <| q9 (wO (j := i) (off := i * 1) rfl rfl rfl (by omega) (by simp)) ?_
        refine qK (zx rfl rfl (by simp [zZ]; omega) rfl) ?_
        refine qB <| QAt.block <| QAt.seq <| Tr.region <| q9 (qA rfl) <| q9 (qj rfl rfl (by omega)) <| q9 (qC rfl) <| qB <| qh ⟨i + 1, ?_⟩ ?_ ?_
        · (try dsimp only); omega
        · (try dsimp only); omega
        · (try dsimp only); exact y7 (by rw [ZD ha (by omega)])
       ·
        refine Tr.exit <| qX <| qY <| qS <| QAt.block <| qO ⟨zZ W (fun j => (5, j)), ?_⟩ ?_
        · (try dsimp only); exact ⟨by unfold wd; rw [if_neg (by omega), if_neg (by omega), if_neg (by omega), if_pos hc22], WW hr (fun j hj => .inr (.inr (.inr (.inr ⟨rfl, by dsimp only; omega, by dsimp only; omega⟩))))⟩
        · (try dsimp only); exact (by obtain rfl : i = 32 := (by omega); rw [List.take_of_length_le (by simp [zZ]), Nat.sub_self, List.replicate_zero, List.append_nil]; exact qP _)
      ·
       refine Tr.seq <| Tr.region <| q9 (qD rfl) <| q9 (qG rfl (show wG v 0 = some (.int .u32 W.num) by rw [hv]; rfl)) <| q9 (qD rfl) <| q9 (qG rfl (show wG v 1 = some (.int .u32 W.ver) by rw [hv]; rfl)) <| q9 (qD rfl) <| q9 (qG rfl (show wG v 2 = some (.int .i64 W.kind) by rw [hv]; rfl)) <| q9 (qD rfl) <| q9 (qG rfl (show wG v 3 = some (.int .i64 W.size) by rw [hv]; rfl)) <| q9 (qD rfl) <| q9 (qG rfl (show wG v 4 = some (.int .u32 W.time) by rw [hv]; rfl)) <| q9 (qD rfl) <| q9 (qk rfl) <| q9 (qG rfl (show wG v 7 = some (.int .i64 W.sg.at_) by rw [hv]; rfl)) <| q9 (qD rfl) <| q9 (qk rfl) <| q9 (qG rfl (show wG v 9 = some (.int .i64 W.db.at_) by rw [hv]; rfl)) <| q9 (wF (z := [Value.int .u32 0, Value.int .u32 0, Value.int .i64 0, Value.int .i64 0, Value.int .u32 0, Value.int .i64 0, Value.int .i64 0, Value.int .i64 0, Value.int .i64 0, Value.int .i64 0, Value.int .i64 0, Value.int .i64 0, Value.int .i64 0, Value.int .i64 0, Value.int .i64 0]) (hz := .of (by kernel_rfl)) rfl) ?_
       refine qF (qV) ?_
       rintro t9 _ ⟨b9, rfl, rfl⟩
       refine qK (qW rfl rfl WC rfl (by simp [Value.oneCell'])) ?_
       refine qB <| QAt.seq <| Tr.seq <| Tr.seq <| Tr.region <| q9 (qC rfl) <| qB <| QAt.seq <| Tr.block <| wB (Γ := {pΓ : (Nat) // (fun (i : Nat) => i ≤ 8) pΓ}) (fun g => (fun (i : Nat) => [(2, .pointer (some ⟨b2, 0, none⟩)), (4, .pointer (some ⟨b4, 0, none⟩)), (9, .pointer (some ⟨b9, 0, none⟩)), (10, .int .i64 i)]) g.1) (fun g => (fun (i : Nat) => [(b9, .cells (zw { kv W with d := l8.take i ++ List.replicate (8 - i) 0 }).toArray 183 (0, 0))] :: [(b5, .cells (List.replicate 32 (Value.int .i64 0)).toArray 175 (0, 0))] :: [(b4, .cells (wW Sec.zero).toArray 54 (0, 0))] :: [(b3, .cells [.int .i64 k.1, .int .i64 k.2].toArray 65 (0, 0))] :: [(b2, .cells v.toArray 41 (0, 0))] :: C :: F) g.1) (fun g => (fun (i : Nat) => 8 - i) g.1) ⟨0, by dsimp only; exact (by omega)⟩ (y7 rfl) ?_
       rintro ⟨i, hloop⟩
       replace hloop : i ≤ 8 := hloop
       obtain hi := hloop
       show Tr _ _ _ ([(2, .pointer (some ⟨b2, 0, none⟩)), (4, .pointer (some ⟨b4, 0, none⟩)), (9, .pointer (some ⟨b9, 0, none⟩)), (10, .int .i64 i)]) ([(b9, .cells (zw { kv W with d := l8.take i ++ List.replicate (8 - i) 0 }).toArray 183 (0, 0))] :: [(b5, .cells (List.replicate 32 (Value.int .i64 0)).toArray 175 (0, 0))] :: [(b4, .cells (wW Sec.zero).toArray 54 (0, 0))] :: [(b3, .cells [.int .i64 k.1, .int .i64 k.2].toArray 65 (0, 0))] :: [(b2, .cells v.toArray 41 (0, 0))] :: C :: F) _ _
       refine Tr.seq <| Tr.seq <| Tr.region <| q9 (qA rfl) <| q9 (qv rfl rfl) <| qB <| QAt.seq <| qI rfl (fun hc5 => ?_) (fun hc5 => ?_)
       ·
        refine Tr.skip <| QAt.seq <| Tr.seq <| Tr.block <| Tr.region <| q9 (qA rfl) <| q9 (qD rfl) <| q9 (qG rfl (show wG v 5 = some (.slice (some ⟨ba, 0, none⟩) 1064 1064) by rw [hv]; rfl)) <| q9 (qA rfl) <| q9 (qf (j := i) (off := i * 131) rfl rfl rfl (by omega) (by simp)) ?_
        refine q9 (qk rfl) <| q9 (zX (j := i) (k := 1) (v := .int .i64 (W.all i).at_) zK rfl (show (ba, Obj.cells ((we W.all).flatMap wc ++ []).toArray 125 (0, 0)) ∈ List.flatten _ by rw [hC]; simp) (zn (by omega)) rfl rfl) <| q9 (qD rfl) <| q9 (wO (j := i) (off := 5 + i * 1) rfl rfl rfl (by omega) (by simp)) ?_
        refine qK (zx rfl rfl (by simp [zw]; omega) rfl) ?_
        refine qB <| QAt.block <| QAt.seq <| Tr.region <| q9 (qA rfl) <| q9 (qj rfl rfl (by omega)) <| q9 (qC rfl) <| qB <| qh ⟨i + 1, ?_⟩ ?_ ?_
        · (try dsimp only); omega
        · (try dsimp only); omega
        · (try dsimp only); exact y7 (by have e := Xw (y := { kv W with d := l8.take i ++ List.replicate (8 - i) 0 }) (i := i) (a := (W.all i).at_) (by simp; omega); have e2 := XJ (hget8 i (by omega)) (by omega) (by omega); dsimp only at e e2; rw [e2] at e; rw [show i * 1 = i from by omega]; rw [e])
       ·
        refine Tr.exit <| qX <| qY <| qS <| QAt.seq <| Tr.seq ?_
        obtain rfl : i = 8 := by omega
        have he : { kv W with d := l8.take 8 ++ List.replicate (8 - 8) 0 } = kv W := by rw [List.take_of_length_le (by omega), Nat.sub_self, List.replicate_zero, List.append_nil, ← hl8]; rfl
        rw [he]
        refine Tr.region <| q9 (w7 rfl (kU (YQ hr))) <| q9 (qw rfl (rwriteInode_ok (kv W) (YQ hr))) <| q9 (qA rfl) <| q9 (qR rfl rfl) <| q9 (qR rfl rfl) <| qF (qV) ?_
        rintro t11 _ ⟨b11, rfl, rfl⟩
        refine qK (qW rfl rfl (by simp) (by simp) (by exact wS _)) ?_
        refine q9 (qC rfl) <| qB <| QAt.seq <| Tr.seq <| Tr.region <| q9 (w7 rfl (by simp)) ?_
        refine qK (qW rfl rfl (by simp) (by simp) (by exact wS _)) ?_
        refine qB <| QAt.seq <| Tr.ret <| qu <| ya <| qs (C :: F) (.inl rfl) rfl (z7 rfl (by simp)) ?_
        exact ⟨by unfold wd; rw [if_neg (by omega), if_neg (by omega), if_neg (by omega), if_neg (by omega), Yx (YQ hr)], rfl⟩
  rintro ⟨l, hcut⟩
  replace hcut : We l = wd W k ∧ j2 l := hcut
  obtain ⟨hl, hpl⟩ := hcut
  show Tr _ _ _ ([(4, .pointer (some ⟨b4, 0, none⟩)), (5, .pointer (some ⟨b5, 0, none⟩))]) ([(b4, .cells (wW Sec.zero).toArray 54 (0, 0))] :: [(b5, .cells (iV l).toArray 175 (0, 0))] :: C :: F) _ _
  refine Tr.seq <| Tr.region <| q9 (w7 rfl (by simp [hpl.len])) ?_
  refine q9 (qw rfl (rwritePointers_ok l hpl)) <| q9 (qA rfl) <| q9 (qR rfl rfl) <| q9 (qR rfl rfl) <| qF (qV) ?_
  rintro t13 _ ⟨b13, rfl, rfl⟩
  refine qK (qW rfl rfl (by simp) (by simp) (by exact wS _)) ?_
  refine q9 (qC rfl) <| qB <| QAt.seq <| Tr.seq <| Tr.region <| q9 (w7 rfl (by simp)) ?_
  refine qK (qW rfl rfl (by simp) (by simp) (by exact wS _)) ?_
  refine qB <| QAt.seq <| Tr.ret <| qs (C :: F) (.inl rfl) rfl (z7 rfl (by simp)) ?_
  exact ⟨by rw [← hl, Qz hpl], rfl⟩
end Go.Proofs.YtjikpomndbkfgaaGreatDoor
