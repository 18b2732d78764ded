/- A map from four bytes to the places where they occur: an entry, its store, a look-up. -/
import Derived.Test.YtjckjcekapkkjaaPx0
import Derived.Test.YtjckjcekapkkjaaHMap
import Derived.WideKeyEntry
import Derived.MapKept
import Derived.ChangeMaps4
import Derived.Lib.Hide
import Derived.Lib.SmallJoins
namespace Go.Proofs.Ytjckjcekapkkjaa.P
open Go.RowKit Go.WideMaps Go.ChangeMaps Go.WideElems Go.MapKept Go.Proofs.YtjckjcekapkkjaaW.PrintWords Go.Proofs.YtjckjcekapkkjaaW.PrintLast Go.Proofs.YtjckjcekapkkjaaW.PrintMore
set_option linter.unusedVariables false
set_option linter.unusedSimpArgs false

/-- The places below k at which key stands in a. -/
def places (a : List Int) (k : Nat) (key : List Int) : List Int := ((List.range k).filter fun i => decide ((a.drop i).take 4 = key)).map fun i : Nat => (i : Int)
theorem places_succ (a : List Int) (k : Nat) (key : List Int) : places a (k + 1) key = if (a.drop k).take 4 = key then places a k key ++ [(k : Int)] else places a k key := by
  unfold places
  rw [List.range_succ, List.filter_append, List.map_append]
  by_cases h : (a.drop k).take 4 = key <;> simp [h]
theorem places_zero (a : List Int) (key : List Int) : places a 0 key = [] := rfl
theorem places_len (a : List Int) (k : Nat) (key : List Int) : (places a k key).length ≤ k := by
  unfold places
  rw [List.length_map]
  exact Nat.le_trans (List.length_filter_le _ _) (by simp)
/-- Four bytes. -/
def Key4 (key : List Int) : Prop := key.length = 4 ∧ ∀ x ∈ key, 0 ≤ x ∧ x < 256
theorem key4_of {key : List Int} (h : Key4 key) : ∃ l, keyOf Try.prog 61 (kv key) = some l := by
  obtain ⟨h1, h2⟩ := h
  match key, h1 with
  | [a, b, c, d], _ => exact mp_keyOf a b c d (h2 a (by simp)) (h2 b (by simp)) (h2 c (by simp)) (h2 d (by simp))
theorem kv_inj {x y : List Int} (h : kv x = kv y) : x = y := by
  unfold kv at h
  injection h with h
  have h1 := congrArg Array.toList h
  simp only [List.toList_toArray] at h1
  exact (List.map_inj_right (fun a b h => by injection h)).1 h1

abbrev Ri (W : World) (base : Nat) (ok : Nat → Prop) (v : Value) (l : List Int) : Prop := Kd.R (Kd.int .i64) 3 W base ok v l
theorem heap_sb {W : World} {b : Nat} {o o' : Obj} (h : W.heap[b]? = some o) : (setBlock W b o').heap[b]? = some o' ∧ ∀ k, k ≠ b → (setBlock W b o').heap[k]? = W.heap[k]? := heap_set h
theorem Ri_not {W : World} {base b : Nat} {ok : Nat → Prop} {v : Value} {l : List Int} {es : Array MapEntry} {clock : Nat} (h : Ri W base ok v l) (hb : W.heap[b]? = some (.map es clock)) : Ri W base (fun k => ok k ∧ k ≠ b) v l := by
  refine Kd.R_mono (Kd.R_bound h) (fun k hk => ⟨hk.1, ?_⟩)
  rintro rfl
  obtain ⟨_, _, _, q, _, c, hc⟩ := hk
  rw [hb] at hc
  cases hc
theorem Ri_sb {W : World} {base b : Nat} {ok : Nat → Prop} {v : Value} {l : List Int} {es : Array MapEntry} {clock : Nat} {o : Obj} (h : Ri W base ok v l) (hb : W.heap[b]? = some (.map es clock)) : Ri (setBlock W b o) base ok v l :=
  Kd.R_mono (Kd.R_step (Ri_not h hb) (fun k hk _ => (heap_sb hb).2 k hk.2)) (fun k hk => hk.1)
theorem Ri_own {W : World} {base : Nat} {ok : Nat → Prop} {v : Value} {l : List Int} (h : Ri W base ok v l) (hl : l ≠ []) : ∃ g, v.ownBlock = some g ∧ g < W.heap.size := by
  obtain ⟨h0, inner, ho, hr⟩ := h
  obtain ⟨g, cap, rfl⟩ := Go.Joins.ownsRow_form ho (List.length_pos_iff.2 hl)
  exact ⟨g, rfl, own_lt ho g rfl⟩

def MapEs (W : World) (base : Nat) (a : List Int) (k : Nat) (es : Array MapEntry) : Prop :=
  (∀ x ∈ es.toList, ∃ key, Key4 key ∧ x.key = kv key ∧ places a k key ≠ [] ∧ Ri W base (fun _ => True) x.val (places a k key)) ∧
  (∀ x ∈ es.toList, ∀ y ∈ es.toList, x.key ≠ y.key → x.val.ownBlock ≠ y.val.ownBlock) ∧
  (∀ key, Key4 key → places a k key ≠ [] → ∃ x ∈ es.toList, x.key = kv key)
structure MapSt (W : World) (base b : Nat) (a : List Int) (k : Nat) : Prop where
  hb : base ≤ b
  ex : ∃ es clock, W.heap[b]? = some (.map es clock) ∧ Stamped es clock ∧ MapEs W base a k es

theorem mem_mod {es : Array MapEntry} {clock : Nat} (S : Stamped es clock) {j : Nat} {e0 : MapEntry} (hj : es[j]? = some e0) (f : MapEntry → MapEntry) {x : MapEntry} :
    x ∈ (es.modify j f).toList ↔ x = f e0 ∨ (x ∈ es.toList ∧ x.key ≠ e0.key) := by
  have hj' : es.toList[j]? = some e0 := by simpa using hj
  have hlt : j < es.toList.length := by
    rcases Nat.lt_or_ge j es.toList.length with h | h
    · exact h
    · rw [List.getElem?_eq_none h] at hj'; cases hj'
  obtain ⟨_, _, hnd⟩ := S
  rw [Array.toList_modify, Go.ChangeMaps.modify_eq_set f es.toList j e0 hj']
  constructor
  · intro hx
    obtain ⟨i, hi⟩ := List.mem_iff_getElem?.1 hx
    rw [List.getElem?_set] at hi
    by_cases hij : j = i
    · rw [if_pos hij] at hi
      rw [if_pos (by omega)] at hi
      injection hi with hi
      exact Or.inl hi.symm
    · rw [if_neg hij] at hi
      refine Or.inr ⟨List.mem_iff_getElem?.2 ⟨i, hi⟩, fun he => hij ?_⟩
      have h1 : (es.toList.map (·.key))[i]? = some e0.key := by rw [List.getElem?_map, hi]; simp [he]
      have h2 : (es.toList.map (·.key))[j]? = some e0.key := by rw [List.getElem?_map, hj']; rfl
      exact (List.getElem?_inj (by simpa using hlt) hnd).1 (h2.trans h1.symm)
  · rintro (rfl | ⟨hx, hne⟩)
    · exact List.mem_iff_getElem?.2 ⟨j, by rw [List.getElem?_set, if_pos rfl, if_pos hlt]⟩
    · obtain ⟨i, hi⟩ := List.mem_iff_getElem?.1 hx
      refine List.mem_iff_getElem?.2 ⟨i, ?_⟩
      rw [List.getElem?_set, if_neg (fun hij => ?_)]
      · exact hi
      · subst hij
        rw [hj'] at hi
        injection hi with hi
        exact hne (by rw [hi])

theorem map_entry_run {W : World} {base b k : Nat} {a key : List Int} (M : MapSt W base b a k) (hk : Key4 key) :
    ∃ (v0 : Value) (st : Nat) (es1 : Array MapEntry) (clock1 : Nat), (Instr.mapEntry 60 (.map (some b)) (kv key)).run Try.prog W = .ok (.tuple #[v0, goInt st]) (setBlock W b (.map es1 clock1)) ∧
      Ri W base (fun j => j ≠ b) v0 (places a k key) ∧
      ∀ (w2 : World) (v1 : Value), w2.heap[b]? = some (.map es1 clock1) → (∀ i, i < W.heap.size → i ≠ b → some i ≠ v0.ownBlock → w2.heap[i]? = W.heap[i]?) →
        Ri w2 base (fun _ => True) v1 (places a k key ++ [(k : Int)]) → (v1.ownBlock = v0.ownBlock ∨ ∃ c, v1.ownBlock = some c ∧ W.heap.size ≤ c) → (a.drop k).take 4 = key →
        ∃ o, (Instr.entryStore 60 (.map (some b)) (goInt st) v1).run Try.prog w2 = .ok () (setBlock w2 b o) ∧ MapSt (setBlock w2 b o) base b a (k + 1) := by
  obtain ⟨hbb, es, clock, hb, S, h1, h2, h3⟩ := M
  obtain ⟨kl, hkey⟩ := key4_of hk
  have hkeys : ∀ x ∈ es.toList, ∃ l, keyOf Try.prog 61 x.key = some l := fun x hx => by
    obtain ⟨ky, hky, he, _⟩ := h1 x hx
    rw [he]; exact key4_of hky
  have ht := Try.underlying60
  have hz : ∀ u : World, (zeroValue 22).run Try.prog u = .ok (.slice none 0 0) u := fun u => by kernel_rfl
  have hblt : b < W.heap.size := by
    rcases Nat.lt_or_ge b W.heap.size with h | h
    · exact h
    · rw [Array.getElem?_eq_none h] at hb; cases hb
  obtain ⟨s1, s2, s3⟩ := S
  -- the old entries in the new world
  have old : ∀ (w2 : World) (v0 v1 : Value) (es1 : Array MapEntry) (clock1 : Nat) (o : Obj), w2.heap[b]? = some (.map es1 clock1) → (∀ i, i < W.heap.size → i ≠ b → some i ≠ v0.ownBlock → w2.heap[i]? = W.heap[i]?) → (a.drop k).take 4 = key →
      ∀ x ∈ es.toList, x.key ≠ kv key → x.val.ownBlock ≠ v0.ownBlock → ∃ key', Key4 key' ∧ x.key = kv key' ∧ places a (k + 1) key' ≠ [] ∧ Ri (setBlock w2 b o) base (fun _ => True) x.val (places a (k + 1) key') := by
    intro w2 v0 v1 es1 clock1 o hw2 hst hkk x hx hne hob
    obtain ⟨key', q1, q2, q3, q4⟩ := h1 x hx
    have hne' : (a.drop k).take 4 ≠ key' := fun he => hne (by rw [q2, ← he, hkk])
    have hp : places a (k + 1) key' = places a k key' := by rw [places_succ, if_neg hne']
    refine ⟨key', q1, q2, by rw [hp]; exact q3, hp ▸ Ri_sb (Kd.R_mono (Kd.R_step (ok := fun i => i ≠ b ∧ some i ≠ v0.ownBlock) ?_ (fun i hi hlt => hst i hlt hi.1 hi.2)) (fun _ _ => trivial)) hw2⟩
    have r1 := Ri_not q4 hb
    rcases hv : v0.ownBlock with _ | g
    · exact Kd.R_mono r1 (fun i hi => ⟨hi.2, by simp⟩)
    · exact Kd.R_mono (Kd.R_far1 r1 rfl (g := g) (fun he => hob (by rw [hv, he]))) (fun i hi => ⟨hi.1.2, fun he => hi.2 (by injection he)⟩)
  rcases mp_law.find W hkey es.toList hkeys with ⟨f1, f2⟩ | ⟨j, e0, f1, f2, f3⟩
  · have hnil : places a k key = [] := by
      by_cases h : places a k key = []
      · exact h
      · obtain ⟨x, hx, he⟩ := h3 key hk h
        exact absurd he (f2 x hx)
    refine ⟨.slice none 0 0, clock, es.push ⟨kv key, .slice none 0 0, clock⟩, clock + 1, ?_, by rw [hnil]; exact Kd.R_nil _ _ _ _ _, ?_⟩
    · simp [Instr.mapEntry, run_underlying ht, Go.MapKept.run_getObj_map hb, mp_law.check W false hkey, f1, hz, Go.MapKept.run_setObj_map _ hb, Result.andThen, setBlock]
    · intro w2 v1 hw2 hst hR hown hkk
      have hidx : (es.push ⟨kv key, .slice none 0 0, clock⟩).findIdx? (fun e => ((e.born : Nat) : Int) == ((clock : Nat) : Int)) = some es.size := by
        rw [findIdx_arr]
        have := findIdx_born (l := (es.push ⟨kv key, .slice none 0 0, clock⟩).toList) (j := es.size) (e0 := ⟨kv key, .slice none 0 0, clock⟩) (by
          simp only [Array.toList_push, List.map_append, List.map_cons, List.map_nil]
          refine List.nodup_append.2 ⟨s2, by simp, fun a ha c hc e1 => ?_⟩
          simp only [List.mem_singleton] at hc
          obtain ⟨x, hx, rfl⟩ := List.mem_map.1 ha
          have := s1 x hx
          omega) (by simp)
        exact this
      have hmod : (es.push ⟨kv key, .slice none 0 0, clock⟩).modify es.size (fun e => { e with val := v1 }) = es.push ⟨kv key, v1, clock⟩ := by
        apply Array.ext'
        rw [Array.toList_modify, Array.toList_push, Array.toList_push, ← Array.length_toList, modify_last]
      refine ⟨.map (es.push ⟨kv key, v1, clock⟩) (clock + 1), ?_, hbb, _, _, (heap_sb hw2).1, stamped_push ⟨s1, s2, s3⟩ f2, ?_⟩
      · simp [Instr.entryStore, Go.MapKept.run_getObj_map hw2, asInt, asIntOf, goInt, hidx, hmod, Go.MapKept.run_setObj_map _ hw2, Result.andThen, setBlock]
      · have new : Ri (setBlock w2 b (.map (es.push ⟨kv key, v1, clock⟩) (clock + 1))) base (fun _ => True) v1 (places a (k + 1) key) := by
          rw [places_succ, if_pos hkk]; exact Ri_sb hR hw2
        have hob : ∀ x ∈ es.toList, x.val.ownBlock ≠ none ∧ x.val.ownBlock ≠ v1.ownBlock := fun x hx => by
          obtain ⟨key', q1, q2, q3, q4⟩ := h1 x hx
          obtain ⟨g, hg, hlt⟩ := Ri_own q4 q3
          obtain ⟨g1, hg1, hlt1⟩ := Ri_own hR (by simp)
          refine ⟨by rw [hg]; simp, ?_⟩
          rw [hg, hg1]
          rintro he
          injection he with he
          rcases hown with h | ⟨c, hc, hcl⟩
          · rw [hg1] at h; cases h
          · rw [hg1] at hc; injection hc with hc; omega
        have hmem : ∀ x, x ∈ (es.push ⟨kv key, v1, clock⟩).toList ↔ x ∈ es.toList ∨ x = ⟨kv key, v1, clock⟩ := fun x => by simp
        refine ⟨fun x hx => ?_, fun x hx y hy hxy => ?_, fun key' hk' hp => ?_⟩
        · rcases (hmem x).1 hx with hx | rfl
          · exact old w2 (.slice none 0 0) v1 _ _ _ hw2 hst hkk x hx (f2 x hx) (hob x hx).1
          · exact ⟨key, hk, rfl, by rw [places_succ, if_pos hkk]; simp, new⟩
        · rcases (hmem x).1 hx with hx | rfl <;> rcases (hmem y).1 hy with hy | rfl
          · exact h2 x hx y hy hxy
          · exact (hob x hx).2
          · exact (hob y hy).2.symm
          · exact absurd rfl hxy
        · by_cases hke : key = key'
          · exact ⟨_, (hmem _).2 (Or.inr rfl), by rw [hke]⟩
          · rw [places_succ, if_neg (by rw [hkk]; exact hke)] at hp
            obtain ⟨x, hx, he⟩ := h3 key' hk' hp
            exact ⟨x, (hmem x).2 (Or.inl hx), he⟩
  · have hj : es[j]? = some e0 := by simpa using f2
    have he0 : e0 ∈ es.toList := List.mem_of_getElem? f2
    have hsame : es.modify j (fun e => { e with key := kv key }) = es := by
      apply Array.ext'
      rw [Array.toList_modify, Go.ChangeMaps.modify_eq_set _ _ _ _ f2]
      have : ({ e0 with key := kv key } : MapEntry) = e0 := by rw [← f3]
      rw [this]
      exact set_self _ _ _ f2
    obtain ⟨key0, q1, q2, q3, q4⟩ := h1 e0 he0
    obtain rfl : key = key0 := kv_inj (f3.symm.trans q2)
    refine ⟨e0.val, e0.born, es, clock, ?_, Kd.R_mono (Ri_not q4 hb) (fun _ h => h.2), ?_⟩
    · simp [Instr.mapEntry, run_underlying ht, Go.MapKept.run_getObj_map hb, mp_law.check W false hkey, f1, hj, f3, mp_law.stays W hkey, hsame, Go.MapKept.run_setObj_map _ hb, Result.andThen, setBlock]
    · intro w2 v1 hw2 hst hR hown hkk
      have hidx : es.findIdx? (fun e => ((e.born : Nat) : Int) == ((e0.born : Nat) : Int)) = some j := by
        rw [findIdx_arr]
        exact findIdx_born s2 f2
      refine ⟨.map (es.modify j (fun e => { e with val := v1 })) clock, ?_, hbb, _, _, (heap_sb hw2).1, stamped_modify ⟨s1, s2, s3⟩ _ _ (fun _ _ => rfl) (fun _ _ _ => rfl), ?_⟩
      · simp [Instr.entryStore, Go.MapKept.run_getObj_map hw2, asInt, asIntOf, goInt, hidx, Go.MapKept.run_setObj_map _ hw2, Result.andThen, setBlock]
      · have new : ∀ o, Ri (setBlock w2 b o) base (fun _ => True) v1 (places a (k + 1) key) := fun o => by
          rw [places_succ, if_pos hkk]; exact Ri_sb hR hw2
        have hob : ∀ x ∈ es.toList, x.key ≠ e0.key → x.val.ownBlock ≠ v1.ownBlock := fun x hx hne => by
          rcases hown with h | ⟨c, hc, hcl⟩
          · rw [h]; exact h2 x hx e0 he0 hne
          · obtain ⟨key', p1, p2, p3, p4⟩ := h1 x hx
            obtain ⟨g, hg, hlt⟩ := Ri_own p4 p3
            rw [hg, hc]
            rintro he
            injection he with he
            omega
        have hmem : ∀ x, x ∈ (es.modify j (fun e => { e with val := v1 })).toList ↔ x = { e0 with val := v1 } ∨ (x ∈ es.toList ∧ x.key ≠ e0.key) := fun x => mem_mod ⟨s1, s2, s3⟩ hj _
        refine ⟨fun x hx => ?_, fun x hx y hy hxy => ?_, fun key' hk' hp => ?_⟩
        · rcases (hmem x).1 hx with rfl | ⟨hx, hne⟩
          · exact ⟨key, hk, f3, by rw [places_succ, if_pos hkk]; simp, new _⟩
          · exact old w2 e0.val v1 _ _ _ hw2 hst hkk x hx (by rw [← f3]; exact hne) (h2 x hx e0 he0 hne)
        · rcases (hmem x).1 hx with rfl | ⟨hx, hne⟩ <;> rcases (hmem y).1 hy with rfl | ⟨hy, hne'⟩
          · exact absurd rfl hxy
          · exact (hob y hy hne').symm
          · exact hob x hx hne
          · exact h2 x hx y hy hxy
        · by_cases hke : key = key'
          · exact ⟨_, (hmem _).2 (Or.inl rfl), by rw [← hke]; exact f3⟩
          · rw [places_succ, if_neg (by rw [hkk]; exact hke)] at hp
            obtain ⟨x, hx, he⟩ := h3 key' hk' hp
            exact ⟨x, (hmem x).2 (Or.inr ⟨hx, fun h => hke (kv_inj ((f3.symm.trans h.symm).trans he))⟩), he⟩

theorem map_lookup_run {W : World} {base b k : Nat} {a key : List Int} (M : MapSt W base b a k) (hk : Key4 key) :
    ∃ v0 : Value, (Instr.lookup 60 (.map (some b)) (kv key) false).run Try.prog W = .ok v0 W ∧ Ri W base (fun j => j ≠ b) v0 (places a k key) := by
  obtain ⟨hbb, es, clock, hb, S, h1, h2, h3⟩ := M
  obtain ⟨kl, hkey⟩ := key4_of hk
  have hkeys : ∀ x ∈ es.toList, ∃ l, keyOf Try.prog 61 x.key = some l := fun x hx => by
    obtain ⟨ky, hky, he, _⟩ := h1 x hx
    rw [he]; exact key4_of hky
  have ht := Try.underlying60
  have hz : ∀ u : World, (zeroValue 22).run Try.prog u = .ok (.slice none 0 0) u := fun u => by kernel_rfl
  rcases mp_law.find W hkey es.toList hkeys with ⟨f1, f2⟩ | ⟨j, e0, f1, f2, f3⟩
  · have hnil : places a k key = [] := by
      by_cases h : places a k key = []
      · exact h
      · obtain ⟨x, hx, he⟩ := h3 key hk h
        exact absurd he (f2 x hx)
    refine ⟨.slice none 0 0, ?_, by rw [hnil]; exact Kd.R_nil _ _ _ _ _⟩
    simp [Instr.lookup, run_underlying ht, Go.MapKept.run_getObj_map hb, mp_law.check W _ hkey, f1, hz, Result.andThen]
  · obtain ⟨key0, q1, q2, q3, q4⟩ := h1 e0 (List.mem_of_getElem? f2)
    obtain rfl : key = key0 := kv_inj (f3.symm.trans q2)
    refine ⟨e0.val, ?_, Kd.R_mono (Ri_not q4 hb) (fun _ h => h.2)⟩
    simp [Instr.lookup, run_underlying ht, Go.MapKept.run_getObj_map hb, mp_law.check W _ hkey, f1, Result.andThen]

theorem map_start {W : World} {base b : Nat} {a : List Int} {clock : Nat} (hbb : base ≤ b) (h : W.heap[b]? = some (.map #[] clock)) : MapSt W base b a 0 :=
  ⟨hbb, #[], clock, h, stamped_empty _, fun x hx => by simp at hx, fun x hx => by simp at hx, fun key _ hp => absurd (places_zero a key) hp⟩
/-- What leaves the map's block and its rows alone. -/
theorem MapSt.step {W w2 : World} {base b k : Nat} {a : List Int} (M : MapSt W base b a k) (h : ∀ i, base ≤ i → i < W.heap.size → w2.heap[i]? = W.heap[i]?) : MapSt w2 base b a k := by
  obtain ⟨hbb, es, clock, hb, S, h1, h2, h3⟩ := M
  have hblt : b < W.heap.size := by
    rcases Nat.lt_or_ge b W.heap.size with h | h
    · exact h
    · rw [Array.getElem?_eq_none h] at hb; cases hb
  refine ⟨hbb, es, clock, (h b hbb hblt).trans hb, S, fun x hx => ?_, h2, h3⟩
  obtain ⟨key, q1, q2, q3, q4⟩ := h1 x hx
  exact ⟨key, q1, q2, q3, Kd.R_mono (Kd.R_step (Kd.R_bound q4) (fun i hi hlt => h i hi.2.1 hlt)) (fun _ _ => trivial)⟩
end Go.Proofs.Ytjckjcekapkkjaa.P
