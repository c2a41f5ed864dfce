/- WHAT CLOSES A STATEMENT OF THE FORM 'the call returns true; each argument reads as it did' from a walk that turns nothing below the heap's old size: for parameters of whatever readable types. No condition beyond that. -/
import Derived.Test.YtlfledeldhhllaaGreatDoorLib
import Derived.OpenVars
import Derived.ProofKit
import Derived.RowKitTokens
namespace Go.Proofs.YtlfledeldhhllaaGreatDoor
open Go Go.RowKit Go.ChangeShapes Go.WideShapes Go.ChangeAt

/-- Each of the types can be read and is a row of the table. -/
def typesRowed (P : Program) (ts : List TypeId) : Bool := ts.all fun t => P.readableRec t && decide (t < P.types.size)

theorem below_trodAll {H : Type} {enc : TypeId × Value → H} {P : Program} (hl : laidOutB P = true) {W W' : World} (hb : Below W.heap.size W W') :
    ∀ {ts : List TypeId} {vs : List Value} {ds : List (DataW H)} {ps : List MemPlace}, typesRowed P ts = true → (∀ x ∈ ps, x.block < W.heap.size) → DataW.TrodAll enc P W 0 (fun _ => true) true ts vs ds ps →
      DataW.TrodAll enc P W' 0 (fun b => decide (b < W.heap.size)) true ts vs ds ps
  | [], [], [], _, _, _, h => h
  | [], [], _ :: _, _, _, _, h => h.elim
  | [], _ :: _, _, _, _, _, h => h.elim
  | _ :: _, [], _, _, _, _, h => h.elim
  | _ :: _, _ :: _, [], _, _, _, h => h.elim
  | t :: ts, v :: vs, d :: ds, ps, ht, hlt, h => by
    obtain ⟨p, q, h1, h2, rfl⟩ := h
    simp only [typesRowed, List.all_cons, Bool.and_eq_true, decide_eq_true_eq] at ht
    exact ⟨p, q, Below.trod hl ht.1.1 ht.1.2 h1 hb (fun x hx => hlt x (by simp [hx])), below_trodAll hl hb (by simpa [typesRowed] using ht.2) (fun x hx => hlt x (by simp [hx])) h2, rfl⟩

/-- THE END OF A LAW's PROOF. -/
theorem law_post {H : Type} {enc : TypeId × Value → H} {P : Program} {f : Func} {s : ChangeSpec} {W W' : World} {args : Array Value} {ds gs : List (DataW H)} {before : List MemPlace} {tb : TypeId}
    (hl : laidOutB P = true) (hr : typesRowed P f.params.toList = true) (hvs : varsRowed P s.vars = true) (hrt : f.resultTypes = #[tb]) (htb : P.underlying tb = some .bool)
    (hfn : s.fn H (ds ++ gs) = { results := [.lit (.bool true)], args := ds, vars := gs })
    (hW : DataW.Whole enc P f.params.toList s.vars false W args.toList ds gs before) (hb : Below W.heap.size W W') :
    s.post enc P f false true false false W args (.bool true) W' := by
  have hlt := hW.lt
  have hW' := hW
  obtain ⟨p, q, hA, hV, rfl, _, _⟩ := hW
  refine ⟨ds, gs, p ++ q, [], p, q, hW', ?_, ?_, ?_, hb.frame _, fun h => by cases h⟩
  · rw [hfn, hrt]
    exact trodAll_mk1 (shut_bool htb true)
  · rw [hfn]
    exact below_trodAll hl hb hr (fun x hx => hlt x (by simp [hx])) hA
  · rw [hfn]
    exact Below.trodVars hl hb hvs hV
end Go.Proofs.YtlfledeldhhllaaGreatDoor
