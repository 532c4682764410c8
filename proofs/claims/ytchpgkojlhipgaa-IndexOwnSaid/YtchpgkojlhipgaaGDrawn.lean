/- No call turns the count of draws back: whatever a call hands back, it hands back behind as many draws as there were, or more. Over any program. -/
import Derived.Calls
import Derived.RunT
namespace Go.Proofs.Ytchpgkojlhipgaa.GDrawn
open Go

def le (w : World) : {α : Type} → Result α → Prop
  | _, .ok _ w' => w.drawn ≤ w'.drawn
  | _, .halt _ w' => w.drawn ≤ w'.drawn
theorem le_trans {α : Type} {a b : World} {r : Result α} (h : a.drawn ≤ b.drawn) (k : le b r) : le a r := by
  cases r <;> exact Nat.le_trans h k
theorem ask_le {α : Type} : ∀ (q : Ask α) (w : World), w.drawn ≤ (w.ask q).2.drawn
  | .done a, w => Nat.le_refl _
  | .ask what range k, w => by
    unfold World.ask
    dsimp only
    split
    · exact ask_le _ w
    · exact Nat.le_trans (Nat.le_succ _) (ask_le _ { w with drawn := w.drawn + 1 })
theorem sys_le (w : World) (c : Sys) : w.drawn ≤ (w.sys c).2.drawn := by
  have h := ask_le (Kernel.perform c w.os) w
  unfold World.sys
  split
  · exact Nat.le_refl _
  · rename_i e
    rw [e] at h
    exact h
theorem viewStore_drawn {p : Program} {w : World} {a : Addr} {u : TypeId} {k : Addr} {v : Value} {at_ : Bool} {r : World × List Addr} (h : w.viewStore p a u k v at_ = .ok r) : r.1.drawn = w.drawn := by
  unfold World.viewStore at h
  simp only [bind, Except.bind, pure, Except.pure] at h
  repeat' split at h
  all_goals first | (cases h; done) | (injection h with h; subst h; rfl) | skip
theorem farStore_drawn {p : Program} {w : World} {a : Addr} {v : Value} {at_ : Bool} {r : World × List Addr} (h : w.farStore p a v at_ = .ok r) : r.1.drawn = w.drawn := by
  unfold World.farStore at h
  repeat' split at h
  all_goals first | (cases h; done) | skip
  injection h with h
  subst h
  rename_i e
  exact viewStore_drawn e
theorem run_le {α : Type} (p : Program) (s : Sem α) : ∀ w : World, le w (s.run p w) := by
  induction s with
  | pure a => intro w; exact Nat.le_refl _
  | load m a k ih =>
    intro w
    simp only [Sem.run]
    repeat' split
    · exact ih _ w
    · exact ih _ w
    · exact Nat.le_refl _
  | store m a v k ih =>
    intro w
    cases v <;> simp only [Sem.run] <;> (repeat' split) <;> first | exact Nat.le_refl _ | exact ih _ | skip
    all_goals (rename_i e; have h := farStore_drawn e; exact le_trans (Nat.le_of_eq h.symm) (ih _))
  | new o k ih => intro w; simp only [Sem.run]; exact le_trans (b := { w with heap := w.heap.push o }) (Nat.le_refl _) (ih _ _)
  | shape r k ih => intro w; simp only [Sem.run]; exact ih _ w
  | freeze a n k ih => intro w; simp only [Sem.run]; exact le_trans (b := w.freeze a n) (by unfold World.freeze; split <;> exact Nat.le_refl _) (ih _)
  | frozen a k ih => intro w; simp only [Sem.run]; exact ih _ w
  | getObj r k ih => intro w; simp only [Sem.run]; split <;> first | exact Nat.le_refl _ | exact ih _ w
  | setObj r o k ih => intro w; simp only [Sem.run]; split <;> first | exact Nat.le_refl _ | exact le_trans (b := { w with heap := w.heap.setIfInBounds r o }) (Nat.le_refl _) (ih _)
  | choose q k ih => intro w; simp only [Sem.run]; split; exact ih _ w; exact le_trans (b := { w with drawn := w.drawn + 1 }) (Nat.le_succ _) (ih _ _)
  | sys c k ih => intro w; simp only [Sem.run]; exact le_trans (sys_le w c) (ih _ _)
  | program k ih => intro w; simp only [Sem.run]; exact ih _ w
  | mark m k ih => intro w; simp only [Sem.run]; exact ih w
  | halt h => intro w; exact Nat.le_refl _
theorem run_ok {α : Type} {p : Program} {s : Sem α} {w w' : World} {v : α} (h : s.run p w = .ok v w') : w.drawn ≤ w'.drawn := by have := run_le p s w; rw [h] at this; exact this
theorem run_halt {α : Type} {p : Program} {s : Sem α} {w w' : World} {v : Halt} (h : s.run p w = .halt v w') : w.drawn ≤ w'.drawn := by have := run_le p s w; rw [h] at this; exact this
theorem runT_ok {α : Type} {p : Program} {s : Sem α} {w w' : World} {v : α} {es es' : Array Event} (h : s.runT p w es = (.ok v w', es')) : w.drawn ≤ w'.drawn := by
  have := Sem.runT_fst p s w es; rw [h] at this; exact run_ok this.symm
theorem runT_halt {α : Type} {p : Program} {s : Sem α} {w w' : World} {v : Halt} {es es' : Array Event} (h : s.runT p w es = (.halt v w', es')) : w.drawn ≤ w'.drawn := by
  have := Sem.runT_fst p s w es; rw [h] at this; exact run_halt this.symm
def gle (w : World) : GStep → Prop
  | .ended _ _ _ => True
  | .go _ w' _ | .comm _ _ _ _ w' _ | .spawn _ _ w' _ | .count _ w' _ | .timer _ _ w' _ | .alone _ _ w' _ | .newcoro _ _ _ w' _ | .coroswitch _ _ _ w' _ | .collect _ w' _ | .watch _ w' _ => w.drawn ≤ w'.drawn
theorem gle_after {w : World} {es : Array Event} {s : GStep} (h : gle w s) : gle w (s.after es) := by cases s <;> exact h
theorem gle_trans {a b : World} {s : GStep} (h : a.drawn ≤ b.drawn) (k : gle b s) : gle a s := by
  cases s <;> first | trivial | exact Nat.le_trans h k
theorem gle_ite {w : World} {c : Prop} [Decidable c] {a b : GStep} (ha : gle w a) (hb : gle w b) : gle w (if c then a else b) := by split <;> assumption
theorem runT_le {α : Type} {p : Program} {s : Sem α} {w : World} {es es' : Array Event} {r : Result α} (h : s.runT p w es = (r, es')) : le w r := by
  have := Sem.runT_fst p s w es; rw [h] at this; rw [show r = s.run p w from this]; exact run_le p s w
def sle (w : World) : Stepped → Prop
  | .next m => w.drawn ≤ m.world.drawn
  | _ => True
theorem sle_trans {a b : World} {s : Stepped} (h : a.drawn ≤ b.drawn) (k : sle b s) : sle a s := by
  cases s <;> first | trivial | exact Nat.le_trans h k

theorem doReturn_le (p : Program) (main : Bool) (fr : Frame) (callers : List Frame) (dying : Option Dying) (v : Value) (w : World) : gle w (doReturn p main fr callers dying v w) := by
  unfold doReturn
  repeat' split
  all_goals first | trivial | exact Nat.le_refl _
theorem dieOf_le (fr : Frame) (ahead : List ByteArray) (m : String) (whole : Bool) (w : World) : gle w (dieOf fr ahead m whole w) := Nat.le_refl _
theorem endThrow_le (fr : Frame) (m : String) (w : World) : gle w (endThrow fr m w) := Nat.le_refl _
theorem endPrinting_le (p : Program) (fr : Frame) (v : Value) (w : World) : gle w (endPrinting p fr v w) := by
  unfold endPrinting
  dsimp only
  split
  · exact endThrow_le _ _ _
  · trivial
theorem endWith_le (w : World) (fd : Nat) (text : ByteArray) (o : Outcome) (w0 : World) : gle w0 (endWith w fd text o) := by
  unfold endWith
  dsimp only
  repeat' split
  all_goals trivial
theorem endFatal_le (p : Program) (fr : Frame) (callers : List Frame) (dying : Option Dying) (m : String) (w : World) : gle w (endFatal p fr callers dying m w) := by
  unfold endFatal
  dsimp only
  split
  · rename_i e
    exact gle_trans (run_ok e) (dieOf_le _ _ _ _ _)
  · trivial
  · trivial
theorem writeOn_le (p : Program) (fr : Frame) (d : Dying) (f : Fatal) (w : World) : gle w (writeOn p fr d f w) := by
  unfold writeOn
  dsimp only
  split
  · trivial
  · split
    · rename_i e; exact runT_ok e
    · rename_i e; exact runT_halt e
    · trivial
    · trivial
theorem die_le (p : Program) (fr : Frame) (d : Dying) (w : World) : gle w (die p fr d w) := by
  unfold die
  split
  · exact writeOn_le _ _ _ _ _
  · split
    · split
      · exact Nat.le_refl _
      · exact endWith_le _ _ _ _ _
    · dsimp only
      split
      · exact Nat.le_refl _
      · split
        · rename_i e; exact run_ok e
        · trivial
      · refine gle_after ?_
        split
        all_goals first | trivial | (rename_i e; first | exact run_ok (Sem.runT_fst _ _ _ _ ▸ e) | exact gle_trans (run_halt (Sem.runT_fst _ _ _ _ ▸ e)) (endPrinting_le _ _ _ _))
      · trivial
theorem early_le (p : Program) (fr : Frame) (callers : List Frame) (dying : Option Dying) (g : Nat) (w : World) : gle w (early p fr callers dying g w) := by
  unfold early
  dsimp only
  repeat' split
  all_goals first | trivial | exact Nat.le_refl _ | exact run_ok (by assumption) | (have h := run_ok ‹Sem.run p (choose (Question.early g)) w = _›; exact h)
theorem callDeferred_le (p : Program) (fr : Frame) (callers : List Frame) (dying : Option Dying) (d : Deferred) (w : World) : gle w (callDeferred p fr callers dying d w) := by
  unfold callDeferred
  refine gle_ite ?_ ?_
  · trivial
  · generalize hx : (invoke d.target d.args).runT p w #[] = x
    obtain ⟨r, es⟩ := x
    have h := runT_le hx
    refine gle_after ?_
    clear hx
    repeat' split
    all_goals first | trivial | exact h | exact gle_trans h (endFatal_le _ _ _ _ _ _) | exact gle_trans h (endThrow_le _ _ _)
theorem unwind_le (p : Program) (main : Bool) (fr : Frame) (callers : List Frame) (dying : Option Dying) (w : World) : gle w (unwind p main fr callers dying w) := by
  unfold unwind
  split
  · refine gle_after ?_
    rw [Sem.runT_fst]
    split
    · rename_i e; exact run_ok e
    · trivial
  · exact callDeferred_le _ _ _ _ _ _
  · split
    · trivial
    · split
      · trivial
      · split
        · exact Nat.le_refl _
        · split
          · split
            · exact Nat.le_refl _
            · split
              · rename_i e; exact run_ok e
              · trivial
              · trivial
          · split
            · exact endPrinting_le _ _ _ _
            · trivial
    · split
      · exact doReturn_le _ _ _ _ _ _ _
      · refine gle_after ?_
        rw [Sem.runT_fst]
        split
        · rename_i e; exact gle_trans (run_ok e) (doReturn_le _ _ _ _ _ _ _)
        · trivial
        · trivial
theorem apply_le (p : Program) (listen : Bool) (fr : Frame) (callers : List Frame) (dying : Option Dying) (s : Sem Next) (w : World) : gle w (stepG.apply p listen fr callers dying s w) := by
  unfold stepG.apply
  dsimp only
  refine gle_after ?_
  have e1 : (if listen = true then s.runT p w #[] else (s.run p w, #[])).1 = s.run p w := by split; exact Sem.runT_fst _ _ _ _; rfl
  rw [e1]
  have h := run_le p s w
  generalize s.run p w = r at *
  split
  all_goals (repeat' split)
  all_goals first | trivial | exact h | exact gle_trans h (endFatal_le _ _ _ _ _ _) | exact gle_trans h (endThrow_le _ _ _) | exact gle_trans h (early_le _ _ _ _ _ _)
theorem oper_le (p : Program) (listen : Bool) (fr : Frame) (callers : List Frame) (dying : Option Dying) (w : World) : gle w (stepG.oper p listen fr callers dying w) := by
  unfold stepG.oper
  repeat' split
  all_goals first | trivial | exact apply_le _ _ _ _ _ _ _
theorem exec_le (p : Program) (main listen : Bool) (fr : Frame) (callers : List Frame) (dying : Option Dying) (w : World) : gle w (stepG.exec p main listen fr callers dying w) := by
  unfold stepG.exec
  dsimp only
  simp only [Sem.runT_fst]
  split
  all_goals (try unfold Option.elim)
  all_goals (repeat' split)
  all_goals first
    | exact Nat.le_refl _
    | trivial
    | exact apply_le _ _ _ _ _ _ _
    | exact oper_le _ _ _ _ _ _
    | exact run_ok (by assumption)
    | (refine gle_after ?_; first | trivial | exact run_ok (by assumption) | exact run_halt (by assumption) | exact gle_trans (run_ok (by assumption)) (doReturn_le _ _ _ _ _ _ _) | exact gle_trans (run_ok (by assumption)) (apply_le _ _ _ _ _ _ _))
theorem stepG_le (p : Program) (main : Bool) (g : Goroutine) (w : World) (listen : Bool) : gle w (stepG p main g w listen) := by
  unfold stepG
  dsimp only
  split
  · exact die_le _ _ _ _
  · exact exec_le _ _ _ _ _ _ _
  · exact unwind_le _ _ _ _ _ _
theorem communicate_le (p : Program) (rest : Rest) (gs : Array Goroutine) (i : Nat) (g : Goroutine) (cases_ : Array CommCase) (blocking : Bool) (shape : CommShape) (w : World) : sle w (communicate p rest gs i g cases_ blocking shape w).1 := by
  unfold communicate
  dsimp only
  repeat' split
  all_goals first
    | trivial
    | exact Nat.le_refl _
    | exact run_ok (by assumption)
    | (have h := run_ok (w := w) (by assumption); exact h)
    | (have h := Nat.le_trans (run_ok (w := w) (by assumption)) (run_ok (by assumption)); exact h)
    | (have h := Nat.le_trans (run_ok (w := w) (by assumption)) (run_halt (by assumption)); exact h)
    | (rename_i h
       unfold waitingAt at h
       repeat' split at h
       all_goals first | (injection h with h; subst h; exact Nat.le_refl _) | cases h)
theorem look_le (p : Program) (gs : Array Goroutine) (rest : Rest) (w : World) : sle w (look p gs rest w) := by
  unfold look
  dsimp only
  repeat' split
  all_goals first
    | trivial
    | exact Nat.le_refl _
    | (have h := run_ok (w := w) (by assumption); exact h)
    | skip
theorem retime_le (m : Machine) (k : Nat) (t : Timer) (a b : Nat) : m.world.drawn ≤ (retime m k t a b).2.world.drawn := by
  unfold retime drain
  dsimp only
  repeat' split
  all_goals exact Nat.le_refl _
theorem timerOp_le (m : Machine) (op : TimerOp) {r : Value × Machine} (h : timerOp m op = .ok r) : m.world.drawn ≤ r.2.world.drawn := by
  unfold timerOp at h
  have named : ∀ {n : Nat} {m : Machine} {var : Addr} {f : Nat → Timer → Value × Machine} {r : Value × Machine}, (∀ k t, n ≤ (f k t).2.world.drawn) → timerOp.named m var f = .ok r → n ≤ r.2.world.drawn := by
    intro n m var f r hf h
    unfold timerOp.named at h
    split at h
    · injection h with h; subst h; exact hf _ _
    · cases h
  split at h
  · repeat' split at h
    all_goals first | (injection h with h; subst h; exact Nat.le_refl _) | cases h
  · exact named (fun k t => retime_le _ _ _ _ _) h
  · split at h
    · rename_i m' e
      refine Nat.le_trans ?_ (named (fun k t => retime_le _ _ _ _ _) h)
      unfold timerOp.opened at e
      repeat' split at e
      all_goals first | (injection e with e; subst e; exact Nat.le_refl _) | cases e
    · cases h
  · injection h with h; subst h; exact Nat.le_refl _
theorem runT_step_le (p : Program) (m : Machine) (i : Nat) (listen : Bool) : sle m.world (runT p m i listen).1 := by
  unfold runT
  dsimp only
  generalize hg : stepG p (i == 0) _ m.world listen = s
  have h : gle m.world s := hg ▸ stepG_le _ _ _ _ _
  clear hg
  split
  · trivial
  · exact sle_trans h (communicate_le _ _ _ _ _ _ _ _ _)
  · exact h
  · exact h
  · split
    · trivial
    · exact h
  · exact h
  · exact sle_trans h (look_le _ _ _ _)
  · exact h
  · exact h
  · split
    · exact h
    · split
      · rename_i e
        injection e with _ e2 _
        subst e2
        exact h
      · trivial
    · trivial
  · split
    · rename_i e
      exact Nat.le_trans h (timerOp_le _ _ e)
    · split
      · rename_i e
        injection e with _ e2 _
        subst e2
        exact h
      · trivial
    · trivial
    · trivial
theorem serve_le (p : Program) (m : Machine) (k : Nat) : sle m.world (serve p m k) := by
  unfold serve
  dsimp only
  repeat' split
  all_goals first | trivial | exact Nat.le_refl _
theorem advance_le (m : Machine) (t : Nat) : m.world.drawn ≤ (m.advanceTo t).world.drawn := by
  unfold Machine.advanceTo
  exact Nat.le_refl _
def mle (w : World) : Move → Prop
  | .goroutine m _ => w.drawn ≤ m.world.drawn
  | .machine s _ => sle w s
theorem mle_trans {a b : World} {s : Move} (h : a.drawn ≤ b.drawn) (k : mle b s) : mle a s := by
  cases s
  · exact Nat.le_trans h k
  · exact sle_trans h k
theorem askOn_le (p : Program) (m : Machine) : mle m.world (askOn p m) := by
  unfold askOn
  dsimp only
  repeat' split
  all_goals first
    | trivial
    | exact Nat.le_refl _
    | (have h := run_ok (w := m.world) (by assumption); exact h)
    | (have h := run_ok (w := m.world) (by assumption); exact sle_trans h (serve_le _ _ _))
    | (have h := run_ok (w := m.world) (by assumption); exact Nat.le_trans h (advance_le _ _))
    | (have h := Nat.le_trans (run_ok (w := m.world) (by assumption)) (run_ok (by assumption)); exact h)
    | (have h := Nat.le_trans (run_ok (w := m.world) (by assumption)) (run_ok (by assumption)); exact Nat.le_trans h (advance_le _ _))
    | exact Nat.le_trans (run_ok (w := m.world) (by assumption)) (Nat.le_trans (run_ok ‹Sem.run p (choose (Question.extern "clock.wait" _)) _ = Result.ok _ _›) (Nat.le_trans (run_ok ‹Sem.run p (choose (Question.sched _)) _ = Result.ok _ _›) (run_ok ‹Sem.run p (choose (Question.extern "sched.slice" 65536)) _ = Result.ok _ _›)))
    | exact Nat.le_trans (run_ok (w := m.world) (by assumption)) (Nat.le_trans (run_ok ‹Sem.run p (choose (Question.sched _)) _ = Result.ok _ _›) (run_ok ‹Sem.run p (choose (Question.extern "sched.slice" 65536)) _ = Result.ok _ _›))
    | exact Nat.le_trans (run_ok (w := m.world) (by assumption)) (Nat.le_trans (run_ok ‹Sem.run p (choose (Question.extern "clock.wait" _)) _ = Result.ok _ _›) (run_ok ‹Sem.run p (choose (Question.sched _)) _ = Result.ok _ _›))
    | exact Nat.le_trans (run_ok (w := m.world) (by assumption)) (run_ok ‹Sem.run p (choose (Question.sched _)) _ = Result.ok _ _›)
    | (have h1 := Nat.le_trans (run_ok (w := m.world) (by assumption)) (run_ok ‹Sem.run p (choose (Question.extern "clock.wait" _)) _ = Result.ok _ _›)
       have h2 := run_ok ‹Sem.run p (choose (Question.sched _)) _ = Result.ok _ _›
       exact Nat.le_trans h1 h2)
    | (have h1 := Nat.le_trans (run_ok (w := m.world) (by assumption)) (run_ok ‹Sem.run p (choose (Question.extern "clock.wait" _)) _ = Result.ok _ _›)
       have h2 := Nat.le_trans (run_ok ‹Sem.run p (choose (Question.sched _)) _ = Result.ok _ _›) (run_ok ‹Sem.run p (choose (Question.extern "sched.slice" 65536)) _ = Result.ok _ _›)
       exact Nat.le_trans h1 h2)
theorem ask_step_le (p : Program) (m : Machine) : mle m.world (ask p m) := by
  unfold ask
  split
  · split
    · trivial
    · rename_i w1 e
      have h := run_ok e
      have h2 := look_le p m.gs m.rest w1
      generalize look p m.gs m.rest w1 = s at h2 ⊢
      cases s with
      | next m1 => exact mle_trans (Nat.le_trans h h2) (askOn_le p m1)
      | ended o w2 => trivial
    · rename_i e
      exact mle_trans (b := _) (run_ok e) (askOn_le p { m with world := _ })
  · exact askOn_le _ _
theorem step_le {p : Program} {m m' : Machine} (h : step p m = .next m') : m.world.drawn ≤ m'.world.drawn := by
  have hm : mle m.world (move p m) := by
    unfold move
    repeat' split
    all_goals first | trivial | exact Nat.le_refl _ | exact ask_step_le _ _ | exact ask_step_le p { m with rest := { m.rest with slice := none } }
  unfold step stepT at h
  cases hv : move p m with
  | goroutine m1 i =>
    rw [hv] at hm h
    have h1 := runT_step_le p m1 i true
    rw [show (runT p m1 i true).1 = .next m' from h] at h1
    exact Nat.le_trans hm h1
  | machine s ops =>
    rw [hv] at hm h
    have : s = .next m' := h
    subst this
    exact hm
theorem steps_le {p : Program} : ∀ (n : Nat) {m m' : Machine}, runN p n m = .next m' → m.world.drawn ≤ m'.world.drawn
  | 0, m, m', h => by injection h with h; subst h; exact Nat.le_refl _
  | n + 1, m, m', h => by
    unfold runN at h
    split at h
    · rename_i e
      exact Nat.le_trans (step_le e) (steps_le n h)
    · rename_i e1 e2
      exact absurd h (e2 m')
/-- WHAT A CALL HANDS BACK, IT HANDS BACK BEHIND AS MANY DRAWS AS THERE WERE, OR MORE. -/
theorem calls_drawn {p : Program} {f : FuncId} {args : Array Value} {w : World} {R : Ending → World → Prop} (h : Calls p f args w R) : Calls p f args w fun e w' => R e w' ∧ ((∃ v, e = .returned v) → w.drawn ≤ w'.drawn) := by
  intro cs
  obtain ⟨e, w', fr, r, s, x⟩ := h cs
  refine ⟨e, w', fr, ⟨r, ?_⟩, s, x⟩
  rintro ⟨v, rfl⟩
  obtain ⟨n, hn⟩ := s
  exact steps_le n hn
end Go.Proofs.Ytchpgkojlhipgaa.GDrawn
