/- A plain evaluator over the translated code: a law is called. Under no condition. -/
import Derived.Test.YtfojcadooepgpaaRxZ
import Derived.Below
import Derived.JoinedCond
set_option linter.unusedVariables false
set_option linter.unusedSimpArgs false
namespace Go.Proofs.Ytfojcadooepgpaa.Rx
open Go Go.RowKit

section
variable {T : Tab} {P : Program}
def Oks (T : Tab) (P : Program) (ds : List (DL T)) : Prop := ∀ d ∈ ds, Ok T P d.1 d.2
/-- What is there as the law begins: memory that does not change. -/
def X0 (W : World) : Nat → Nat → Prop := fun b _ => b < W.heap.size
theorem rel0 (W : World) (m : Nat → Value) : Rel T m (X0 W) [] W where
  ob := fun i o h => by simp at h
  sep := fun i j o o' h => by simp at h
  lt := fun b o h => h
  pv := fun i o h => by simp at h
  gr := fun i e t xs sh h => by simp at h
  po := fun i e t h => by simp at h
theorem below_of {m m' : Nat → Value} {X' : Nat → Nat → Prop} {h' : Hp T} {W w' : World} (hf : Fr T m (X0 W) [] W m' X' h' w') : Below W.heap.size W w' :=
  ⟨hf.os, hf.tape, hf.output, hf.size, fun k hk => hf.old k hk (by rintro ⟨i, o, h, _⟩; simp at h)⟩
theorem leafs_of {w : World} {m : Nat → Value} {n : Nat} : ∀ {ds : List (DL T)} {cs : List Value}, All2 (RO T P w) ds cs → All2 (LfR m (X0 w) n w) (ds.map fun d => .d d.1 d.2) cs
  | [], [], _ => trivial
  | d :: ds, c :: cs, h => ⟨h.1.1, leafs_of h.2⟩
  | [], _ :: _, h => h.elim
  | _ :: _, [], h => h.elim
theorem oks_of {w : World} : ∀ {ds : List (DL T)} {cs : List Value}, All2 (RO T P w) ds cs → Oks T P ds
  | [], [], _ => fun d hd => by cases hd
  | d :: ds, c :: cs, h => fun d' hd => by
    rcases List.mem_cons.1 hd with rfl | hd
    · exact h.1.2
    · exact oks_of h.2 d' hd
  | [], _ :: _, h => h.elim
  | _ :: _, [], h => h.elim
/-- What an argument reads as: a struct. -/
theorem arg_agg {L : List TypeId} (hL : okS P T.fs L L = true) {t : TypeId} {ls : List Ty} (hl : leaves P 9 t = some ls) (ho : okTys L ls = true) {fs : Array Field} (hu : P.underlying t = some (.struct fs)) {W : World} {base : Nat} {v : Value} (hv : Value.okWide P W .any base t v)
    {H : Type} {enc : TypeId × Value → H} {d : DataW H} {ps : List MemPlace} (hr : DataW.Trod enc P W 0 (fun _ => true) true t v d ps) (hm : ∀ m ∈ d.weights P t, m ≤ reachBytes) :
    ∃ x : HL T.S ls, Oks T P (toDL T ls x) ∧ (∀ m n, VR m (X0 W) n W (true, (toDL T ls x).map fun d => .d d.1 d.2) v) ∧ Bk T (toDL T ls x) (bulk d) := by
  obtain ⟨n, hn⟩ := hr
  obtain ⟨ds, q1, q2, b1⟩ := opens_ok hL n 9 t ls hl ho enc W _ _ hn hm
  obtain ⟨x, hx⟩ := hl_of q1
  unfold Value.okWide at hv
  rw [hu] at hv
  obtain ⟨cs, rfl, _⟩ := hv
  refine ⟨x, by rw [hx]; exact oks_of q2, fun m n => ⟨cs.toList, by rw [hx]; exact leafs_of q2, by simp⟩, by rw [hx]; exact b1⟩
theorem arg_one {L : List TypeId} (hL : okS P T.fs L L = true) {t : TypeId} {ty : Ty} (hl : leaves P 9 t = some [ty]) (ho : okTys L [ty] = true) (ha : aggOf P t = some false) {W : World} {base : Nat} {v : Value} (hv : Value.okWide P W .any base t v)
    {H : Type} {enc : TypeId × Value → H} {d : DataW H} {ps : List MemPlace} (hr : DataW.Trod enc P W 0 (fun _ => true) true t v d ps) (hm : ∀ m ∈ d.weights P t, m ≤ reachBytes) :
    ∃ x : HL T.S [ty], Oks T P (toDL T [ty] x) ∧ (∀ m n, VR m (X0 W) n W (false, (toDL T [ty] x).map fun d => .d d.1 d.2) v) ∧ Bk T (toDL T [ty] x) (bulk d) := by
  obtain ⟨n, hn⟩ := hr
  obtain ⟨ds, q1, q2, b1⟩ := opens_ok hL n 9 t [ty] hl ho enc W _ _ hn hm
  obtain ⟨x, hx⟩ := hl_of q1
  have hna : ∀ cs, v ≠ .agg cs := by
    rintro cs rfl
    unfold aggOf at ha
    unfold Value.okWide at hv
    cases hd : P.underlying t with
    | none => rw [hd] at ha; cases ha
    | some dd =>
      rw [hd] at ha hv
      cases dd <;> simp [Cell.okWide, Cell.ok, hd] at ha hv
  have hcs : v.cells.toList = [v] := by cases v <;> simp_all [Value.cells]
  rw [hcs] at q2
  refine ⟨x, by rw [hx]; exact oks_of q2, fun m n => ⟨[v], by rw [hx]; exact leafs_of q2, by simp⟩, by rw [hx]; exact b1⟩
theorem sized_arg {H : Type} {ts : List TypeId} {ds : List (DataW H)} (h : (DataW.weightsEach P ts ds).all (· ≤ reachBytes) = true) {j : Nat} {t : TypeId} {d : DataW H} (ht : ts[j]? = some t) (hd : ds[j]? = some d) : ∀ m ∈ d.weights P t, m ≤ reachBytes := by
  intro m hm
  have := List.all_eq_true.1 h _ (DataW.weights_mem_each ht hd m hm)
  simpa using this
/-- A law whose input is of some bulk at most, with what is known of sizes. -/
theorem handed_of_cond {H : Type} {enc : TypeId × Value → H} {a : Assume} {C : Checked} {os : Os} {f : FuncId} {fn : Func} {s : OpenSpec} {k : (H : Type) → List (DataW H) → Bool} (hk : s.cond = some k) {F : Stop.Interp} {conds : List PathCond} {apart fresh handsOn again : Bool}
    (own : ownKnob C.prog.godebug = none) (started : os.Started) (noInit : C.prog.inits.idxOf? f = none) (hfn : C.prog.funcs[f]? = some fn)
    (witness : ∃ (w : World) (tape : Tape) (i : Input), w.os = os ∧ (w.forCall tape i).Shaped C.prog ∧ i.vars = [] ∧ Input.okWide C.prog (w.forCall tape i) .any w.heap.size f i ∧
      s.pre6 enc C.prog fn conds apart (w.forCall tape i).memory i.args ∧ a.holds C.prog (lone (Frame.enter C.prog f i.args .normal) [] (w.forCall tape i)))
    (contract : ∀ (W : World) (base : Nat) (args : Array Value) (ds gs : List (DataW H)) (before : List MemPlace),
      (∀ (j : Nat) t v, fn.params[j]? = some t → args[j]? = some v → Value.okWide C.prog W .any base t v) →
      DataW.Whole enc C.prog fn.params.toList s.vars apart W args.toList ds gs before →
      (DataW.weightsEach C.prog (fn.params.toList ++ s.bare.plain.varTypes C.prog) (ds ++ gs)).all (· ≤ reachBytes) = true → k H (ds ++ gs) = true →
      Calls C.prog f args W fun e W' => ∃ v, e = .returned v ∧ (s.at F).post enc C.prog fn apart fresh handsOn again W args v W') :
    ReturnsInHanded a C os f .any (s.pre6 enc C.prog fn conds apart) ((s.at F).post enc C.prog fn apart fresh handsOn again) := by
  refine returnsInHanded_of_calls own started noInit witness ?_
  intro w tape i _ _ _ hok hpre hholds
  obtain ⟨_, _, _, fn', hfn', _, _, _, _, hval⟩ := hok
  have e : fn' = fn := Option.some.inj (hfn'.symm.trans hfn)
  subst e
  obtain ⟨ds, gs, before, hw, hc, hkk⟩ := (OpenSpec.pre_some hk conds apart _ _).1 hpre.1
  have hw' := DataW.Whole.of_heap (w' := w.forCall tape i) (by rfl) hw
  refine (contract (w.forCall tape i) w.heap.size i.args ds gs before hval hw' (hpre.2.weights hw) hkk).mono fun e W' ⟨v, he, hp⟩ => ?_
  subst he
  exact ChangeSpec.post_blind hp
/-- A law that answers true. -/
theorem law_of {tb : List (FuncId × Fx)} {key : Nat} {Fn : List (DL T) → Option (HL T.S (fxAt tb key).tout)} (hS : Snd P tb key Fn) {f : FuncId} {fx : Fx} (hrow : nth tb key = some (f, fx)) {ds : List (DL T)} {y : HL T.S (fxAt tb key).tout} (hF : Fn ds = some y)
    {vs : List (V T)} (ht : (fxAt tb key).take (vs.map .v) [] = some ds) (hb : (fxAt tb key).back y = some (.v (false, [.d .bool true]), [])) {W : World} {args : List Value} (hargs : ∀ m n, All2 (VR m (X0 W) n W) vs args) :
    Calls P f args.toArray W fun e w' => e = .returned (.bool true) ∧ Below W.heap.size W w' := by
  have := hS _ hrow ds y hF _ _ _ _ ht hb (fun _ => .bool true) (X0 W) W args (rel0 W _) (All2.map (hargs _ _))
  refine this.mono ?_
  rintro e w' ⟨rv, m', X', rfl, h1, h2, h3⟩
  have h4 := AR_one.1 h1
  exact ⟨by rw [RD.inv h4], below_of h3⟩
end
end Go.Proofs.Ytfojcadooepgpaa.Rx
