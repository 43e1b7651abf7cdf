/- The row's last step where a call has left all as it was, but for blocks of its own (Kept). -/
import Derived.Test.YtmeddeaphmpjcaaMem
import Derived.ProofKit
namespace Go.Proofs.Ytmeddeaphmpjcaa
open Go.RowKit Go.WideShapes Go.ChangeShapes

section
variable {H : Type} {enc : TypeId × Value → H} {P : Program}
theorem post_of_kept {f : Func} {s : ChangeSpec} {apart fresh handsOn again : Bool} {W W' : World} {args : Array Value} {v : Value} {ds gs : List (DataW H)} {before pa pv : List MemPlace}
    (hW : DataW.Whole enc P f.params.toList s.vars apart W args.toList ds gs before)
    (hres : ∀ (b : Nat) (sp : Nat → Bool) (hd : Bool), DataW.TrodAll enc P W' b sp hd f.resultTypes.toList (v.resultList f.resultTypes.size) (s.fn H (ds ++ gs)).results [])
    (hargs : ∀ sp : Nat → Bool, (∀ p ∈ before, sp p.block = true) → DataW.TrodAll enc P W' 0 sp true f.params.toList args.toList (s.fn H (ds ++ gs)).args pa)
    (hvars : ∀ sp : Nat → Bool, (∀ p ∈ before, sp p.block = true) → DataW.TrodVars enc P W' sp s.vars (s.fn H (ds ++ gs)).vars pv)
    (hps : before = pa ++ pv) (hk : Kept (fun _ => False) W W')
    (hok : ∀ (j : Nat) (t : TypeId) (r : Value), f.resultTypes[j]? = some t → (v.resultList f.resultTypes.size)[j]? = some r → Value.okWide P W' .any 0 t r) :
    s.post enc P f apart fresh handsOn again W args v W' := by
  have hb := hk.below
  have hlt : ∀ p ∈ before, p.block < W.heap.size := fun p hp => hW.lt p hp
  have hold : ∀ p ∈ before, (fun b => decide (b < W.heap.size)) p.block = true := fun p hp => by simpa using hlt p hp
  refine ⟨ds, gs, before, [], pa, pv, hW, hres _ _ _, hargs _ hold, hvars _ hold, World.keptBut_mono (fun p hp => ⟨hp, ?_⟩) (hb.frame (· ∈ before)), fun _ => ?_⟩
  · rw [hps, List.mem_append] at hp
    exact Or.inr hp
  · obtain ⟨_, _, _, _, _, hz, hn⟩ := hW
    refine ⟨hok, _, _, ([] ++ pa) ++ pv, ⟨[] ++ pa, pv, trodAll_append (hargs _ (fun _ _ => rfl)) (hres _ _ _), hvars _ (fun _ _ => rfl), rfl, ?_, ?_⟩, ?_⟩
    · intro b off hp
      have hin : MemPlace.cell b off ∈ before := by rw [hps]; simpa using hp
      rw [hb.frozen (hlt _ hin)]
      exact hz b off hin
    · intro ha
      have := hn ha
      rw [hps] at this
      simpa using this
    · intro p hp _
      rw [hps]
      simpa using hp
theorem stays_all {W W' : World} (hl : laidOutB P = true) (hk : Kept (fun _ => False) W W') : ∀ (ts : List TypeId) (vs : List Value) (ds : List (DataW H)) (ps : List MemPlace) (sp : Nat → Bool),
    (∀ t ∈ ts, P.readableRec t = true ∧ t < P.types.size) → DataW.TrodAll enc P W 0 (fun _ => true) true ts vs ds ps → (∀ p ∈ ps, p.block < W.heap.size) → (∀ p ∈ ps, sp p.block = true) → DataW.TrodAll enc P W' 0 sp true ts vs ds ps
  | [], [], [], _, _, _, h, _, _ => h
  | [], _ :: _, _, _, _, _, h, _, _ => (h : False).elim
  | [], [], _ :: _, _, _, _, h, _, _ => (h : False).elim
  | _ :: _, [], _, _, _, _, h, _, _ => (h : False).elim
  | _ :: _, _ :: _, [], _, _, _, h, _, _ => (h : False).elim
  | t :: ts, v :: vs, d :: ds, ps, sp, ht, h, hlt, hs => by
    obtain ⟨p, q, h1, h2, rfl⟩ := h
    refine ⟨p, q, ?_, stays_all hl hk ts vs ds q sp (fun u hu => ht u (List.mem_cons_of_mem _ hu)) h2 (fun x hx => hlt x (List.mem_append_right _ hx)) (fun x hx => hs x (List.mem_append_right _ hx)), rfl⟩
    have := ht t (List.mem_cons_self ..)
    exact WideElems.Trod_stays hl this.1 this.2 h1 (fun x hx => hk.below.same (hlt x (List.mem_append_left _ hx))) (fun x hx => hs x (List.mem_append_left _ hx))

/-- A law's row: true is answered, all that was there is as it was: each argument reads as it did. -/
theorem law_post {f : Func} {s : ChangeSpec} {apart : Bool} {W W' : World} {args : Array Value} {ds gs : List (DataW H)} {before : List MemPlace} {tb : TypeId}
    (hl : laidOutB P = true) (ht : ∀ t ∈ f.params.toList, P.readableRec t = true ∧ t < P.types.size) (hr : f.resultTypes = #[tb]) (hu : P.underlying tb = some .bool)
    (hv : s.vars = []) (hf : s.fn H ds = { results := [.lit (.bool true)], args := ds })
    (hW : DataW.Whole enc P f.params.toList s.vars apart W args.toList ds gs before) (hk : Kept (fun _ => False) W W') :
    s.post enc P f apart true false false W args (.bool true) W' := by
  have hW2 := hW
  obtain ⟨p, q, hA, hV, rfl, _, _⟩ := hW2
  rw [hv] at hV
  have hg : gs = [] ∧ q = [] := by
    cases gs with
    | nil => exact ⟨rfl, hV⟩
    | cons a b => exact (hV : False).elim
  obtain ⟨rfl, rfl⟩ := hg
  have hfe : s.fn H (ds ++ []) = { results := [.lit (.bool true)], args := ds } := by rw [List.append_nil]; exact hf
  have hlt : ∀ x ∈ p, x.block < W.heap.size := fun x hx => hW.lt x (List.mem_append_left _ hx)
  have hsv : (s.fn H (ds ++ [])).vars = [] := by rw [hfe]
  refine post_of_kept (pa := p) (pv := []) hW (fun _ _ _ => ?_) (fun sp hsp => ?_) (fun _ _ => ?_) rfl hk ?_
  · rw [hfe, hr]
    exact trodAll_mk1 (shut_bool hu true)
  · rw [hfe]
    exact stays_all hl hk _ _ _ _ sp ht hA hlt (fun x hx => hsp x (List.mem_append_left _ hx))
  · rw [hsv, hv]
    rfl
  · exact ok_one hr rfl (okWide_bool_mk hu true)
end
end Go.Proofs.Ytmeddeaphmpjcaa
