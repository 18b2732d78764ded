/- A raw list of ops under the bound of an '..Upto' row: its ops and their bytes are no more than the bound. -/
import Derived.Test.YtjckjcekapkkjaaPx0
import Derived.Test.YtjckjcekapkkjaaHOpenOps
import Derived.Test.YtjckjcekapkkjaaRows
namespace Go.Proofs.Ytjckjcekapkkjaa.P
open Go.RowKit Go.Proofs.YtjckjcekapkkjaaW.PrintWords Go.Proofs.YtjckjcekapkkjaaW.PrintLast Go.Proofs.YtjckjcekapkkjaaW.PrintMore Go.Deep Go.ChangeShapes Go.WideShapes
set_option linter.unusedVariables false
set_option linter.unusedSimpArgs false

def rawSum (l : List S39) : Nat := (l.map fun o => o.f2.length + 1).sum
def rawOpsU (l : List S39) : Prop := rawOps l ∧ rawSum l ≤ 1048576
theorem bulk_pos {H : Type} (d : DataW H) : 1 ≤ Rows.uptoBulk d := by
  cases d with
  | lit l => cases l <;> simp [Rows.uptoBulk]
  | nil => simp [Rows.uptoBulk]
  | ptr d => simp [Rows.uptoBulk]
  | slice elems spare => simp [Rows.uptoBulk]
  | agg parts => simp [Rows.uptoBulk]
  | iface t d => simp [Rows.uptoBulk]
  | map entries => simp [Rows.uptoBulk]
  | held h => simp [Rows.uptoBulk]
theorem bulk_len {H : Type} (l : List (DataW H)) : l.length ≤ Rows.uptoBulkAll l := by
  induction l with
  | nil => simp [Rows.uptoBulkAll]
  | cons x r ih => have := bulk_pos x; simp only [Rows.uptoBulkAll, List.length_cons]; omega
theorem ops_bulk {H : Type} : ∀ (l : List S39) (el : List (DataW H)), rawData l el → rawSum l ≤ Rows.uptoBulkAll el
  | [], [], _ => by simp [rawSum]
  | o :: os, d :: ds, h => by
    obtain ⟨⟨y0, y1, y2, rfl, hy⟩, h2⟩ := h
    have ih := ops_bulk os ds h2
    have e : rawSum (o :: os) = o.f2.length + 1 + rawSum os := by simp [rawSum]
    rw [e]
    simp only [Rows.uptoBulkAll, Rows.uptoBulk]
    rcases hy with hy | ⟨el, s, rfl, hle⟩
    · rw [hy]
      simp only [List.length_nil]
      omega
    · have h1 := bulk_len el
      have h2 := bulk_len s
      simp only [Rows.uptoBulk]
      omega
  | [], _ :: _, h => h.elim
  | _ :: _, [], h => h.elim
theorem open_opsU {H : Type} {enc : TypeId × Value → H} {W : World} {base : Nat} {spare : Nat → Bool} {held : Bool} {a : Option Addr} {len cap : Nat} {d : DataW H} {ps : List MemPlace} {ts : List TypeId} {ds : List (DataW H)} {j : Nat} (hs : ∀ b, spare b = true)
    (hsz : (DataW.weightsEach Try.prog ts ds).all (· ≤ reachBytes) = true) (ht : ts[j]? = some 29) (hd : ds[j]? = some d) (h : DataW.Trod enc Try.prog W base spare held 29 (.slice a len cap) d ps) (hk : Rows.uptoSmall H ds = true) :
    ∃ l : List S39, len = l.length ∧ l.length ≤ cap ∧ k39.C W a l.length l ∧ rawOpsU l := by
  obtain ⟨l, h1, h2, h3, h4, h5⟩ := open_opsD hs hsz ht hd h
  refine ⟨l, h1, h2, h3, h4, ?_⟩
  have hb : Rows.uptoBulkAll ds ≤ 1048576 := of_decide_eq_true hk
  have hm : Rows.uptoBulk d ≤ Rows.uptoBulkAll ds := by
    have hmem : d ∈ ds := by
      obtain ⟨hj, rfl⟩ := List.getElem?_eq_some_iff.1 hd
      exact List.getElem_mem hj
    clear hb hsz hd hk
    induction ds with
    | nil => cases hmem
    | cons x r ih =>
      simp only [Rows.uptoBulkAll]
      rcases List.mem_cons.1 hmem with e | e
      · subst e; omega
      · have := ih e; omega
  rcases h5 with ⟨_, rfl⟩ | ⟨el, sp, rfl, ho⟩
  · simp [rawSum]
  · have := ops_bulk l el ho
    simp only [Rows.uptoBulk] at hm
    omega
end Go.Proofs.Ytjckjcekapkkjaa.P
