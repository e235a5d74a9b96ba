import Derived.Test.YtkgkihichdcpmaaGreatDoorC7
import GoSem.Step
import Derived.Calls
import Derived.Control
import Derived.Below
import Derived.Deep.Draws
import Derived.Sort.Grow
import Derived.Shelf.SlSortCmp.Whole1
import Derived.Sort.LotA
import Derived.RangeFuncWrites
import Derived.Maps.OwnSet
import Derived.Maps.OwnIn
import Derived.Lib.ParseIntB
import Derived.KernelRfl
import Derived.Lib.ItoaLen
section
namespace Go.Proofs.YtkgkihichdcpmaaGreatDoor.Dr
open Go
def Result.world {α : Type} : Result α → World
 | .ok _ w => w
 | .halt _ w => w
theorem ask_drawn {α : Type} (k : Ask α) : ∀ w : World, w.drawn ≤ (w.ask k).2.drawn := by
 induction k with
 | done a => intro w; simp [World.ask]
 | ask what range k ih =>
  intro w; unfold World.ask
  dsimp only
  split
  ·exact ih _ _
  ·exact Nat.le_trans (show w.drawn ≤ ({ w with drawn := w.drawn + 1 } : World).drawn from Nat.le_succ _) (ih _ _)
theorem sys_drawn (w : World) (c : Sys) : w.drawn ≤ (w.sys c).2.drawn := by
 have h := ask_drawn (Kernel.perform c w.os) w; unfold World.sys
 split
 ·exact Nat.le_refl _
 ·rename_i he
  rw [he] at h; exact h
theorem viewStore_drawn {p : Program} {w w' : World} {t : Addr} {u : TypeId} {a : Addr} {v : Value} {b : Bool} {l : List Addr} (h : w.viewStore p t u a v b = .ok (w', l)) : w'.drawn = w.drawn := by
 unfold World.viewStore at h; simp only [bind, Except.bind, pure, Except.pure] at h
 repeat' (split at h)
 all_goals (first | (cases h; done) | skip)
 all_goals (first | (cases h; rfl) | skip)
theorem farStore_drawn {p : Program} {w w' : World} {a : Addr} {v : Value} {b : Bool} {l : List Addr} (h : w.farStore p a v b = .ok (w', l)) : w'.drawn = w.drawn := by
 unfold World.farStore at h
 split at h
 ·split at h
  ·rename_i hr
   cases h; exact viewStore_drawn hr
  ·cases h
 ·cases h
theorem freeze_drawn (w : World) (a : Addr) (n : Nat) : (w.freeze a n).drawn = w.drawn := by unfold World.freeze; split <;> rfl
theorem run_drawn {α : Type} (p : Program) (s : Sem α) : ∀ w : World, w.drawn ≤ (Result.world (s.run p w)).drawn := by
 induction s with
 | pure a => intro w; exact Nat.le_refl _
 | load m a k ih => intro w; unfold Sem.run; split <;> first | exact ih _ _ | (split <;> first | exact ih _ _ | exact Nat.le_refl _)
 | store m a v k ih =>
  intro w
  have hk : ∀ v' : Value, w.drawn ≤ (Result.world (match w.cell? a with
    | some _ => if w.frozen? a = true then Result.halt (Halt.unsupported (Unsupported.unsafePointer "a write to bytes that a string shares")) w else Sem.run p k (w.setCell a v')
    | none => match World.farStore p w a v' (m == Mode.atomic) with
     | Except.ok (w, _) => Sem.run p k w
     | Except.error h => Result.halt h w)).drawn := by
   intro v'
   split
   ·split
    ·exact Nat.le_refl _
    ·exact ih (w.setCell a v')
   ·split
    ·rename_i hf
     exact Nat.le_trans (Nat.le_of_eq (farStore_drawn hf).symm) (ih _)
    ·exact Nat.le_refl _
  cases v <;> first | exact Nat.le_refl _ | exact hk _
 | new o k ih => intro w; exact ih w.heap.size { w with heap := w.heap.push o }
 | shape r k ih => intro w; exact ih (w.shape? r) w
 | freeze a n k ih => intro w; exact Nat.le_trans (Nat.le_of_eq (freeze_drawn w a n).symm) (ih (w.freeze a n))
 | frozen a k ih => intro w; exact ih (w.frozen? a) w
 | getObj r k ih => intro w; unfold Sem.run; split <;> first | exact ih _ _ | exact Nat.le_refl _
 | setObj r o k ih =>
  intro w; unfold Sem.run
  split
  ·exact Nat.le_refl _
  ·exact ih { w with heap := w.heap.setIfInBounds r o }
  ·exact Nat.le_refl _
 | choose q k ih =>
  intro w; unfold Sem.run
  split
  ·exact ih _ _
  ·exact Nat.le_trans (show w.drawn ≤ ({ w with drawn := w.drawn + 1 } : World).drawn from Nat.le_succ _) (ih _ _)
 | sys c k ih => intro w; exact Nat.le_trans (sys_drawn w c) (ih (w.sys c).1 (w.sys c).2)
 | program k ih => intro w; exact ih p w
 | mark m k ih => intro w; exact ih w
 | halt h => intro w; exact Nat.le_refl _
end Go.Proofs.YtkgkihichdcpmaaGreatDoor.Dr
namespace Go.Proofs.YtkgkihichdcpmaaGreatDoor.Dr
open Go
theorem run_ok {α : Type} {p : Program} {s : Sem α} {w w' : World} {a : α} (h : s.run p w = .ok a w') : w.drawn ≤ w'.drawn := by
 have := run_drawn p s w; rw [h] at this; exact this
theorem run_halt {α : Type} {p : Program} {s : Sem α} {w w' : World} {a : Halt} (h : s.run p w = .halt a w') : w.drawn ≤ w'.drawn := by
 have := run_drawn p s w; rw [h] at this; exact this
def gw : GStep → World
 | .go _ w _ => w
 | .comm _ _ _ _ w _ => w
 | .spawn _ _ w _ => w
 | .count _ w _ => w
 | .timer _ _ w _ => w
 | .alone _ _ w _ => w
 | .newcoro _ _ _ w _ => w
 | .coroswitch _ _ _ w _ => w
 | .collect _ w _ => w
 | .watch _ w _ => w
 | .ended _ w _ => w
@[simp] theorem gw_after (es : Array Event) (s : GStep) : gw (s.after es) = gw s := by cases s <;> rfl
theorem doReturn_gw (p : Program) (main : Bool) (fr : Frame) (callers : List Frame) (dying : Option Dying) (v : Value) (w : World) : gw (doReturn p main fr callers dying v w) = w := by
 unfold doReturn
 repeat' split
 all_goals rfl
theorem endPrinting_gw (p : Program) (fr : Frame) (v : Value) (w : World) : gw (endPrinting p fr v w) = w := by
 unfold endPrinting
 dsimp only
 split <;> rfl
theorem endFatal_gw (p : Program) (fr : Frame) (callers : List Frame) (dying : Option Dying) (m : String) (w : World) : w.drawn ≤ (gw (endFatal p fr callers dying m w)).drawn := by
 unfold endFatal
 dsimp only
 split
 ·rename_i h; exact run_ok h
 ·rename_i h; exact run_halt h
 ·rename_i h; exact run_halt h
end Go.Proofs.YtkgkihichdcpmaaGreatDoor.Dr
namespace Go.Proofs.YtkgkihichdcpmaaGreatDoor.Dr
open Go
theorem ite_gw {c : Prop} [Decidable c] {a b : GStep} {w : World} (h1 : w.drawn ≤ (gw a).drawn) (h2 : w.drawn ≤ (gw b).drawn) : w.drawn ≤ (gw (if c then a else b)).drawn := by split <;> assumption
theorem callDeferred_gw (p : Program) (fr : Frame) (callers : List Frame) (dying : Option Dying) (d : Deferred) (w : World) : w.drawn ≤ (gw (callDeferred p fr callers dying d w)).drawn := by
 unfold callDeferred; simp only [Sem.runT_eq]; refine ite_gw (Nat.le_refl _) ?_
 ·rw [gw_after]; generalize hr : (invoke d.target d.args).run p w = r; have h := run_drawn p (invoke d.target d.args) w; rw [hr] at h
  cases r with
  | ok n w1 =>
   cases n with
   | recover =>
    change w.drawn ≤ (gw (match fr.mode, tryRecover fr callers with
     | FrameMode.returning, some (_, callers) => GStep.go { frame := fr, callers, status := GoStatus.running, dying := dying } w1
     | _, _ => GStep.go { frame := fr, callers, status := GoStatus.running, dying := dying } w1)).drawn
    split <;> exact h
   | alone on v => cases on <;> exact h
   | coroswitch c ex => cases ex <;> exact h
   | _ => exact h
  | halt n w1 =>
   cases n <;> first | exact h | exact Nat.le_trans h (endFatal_gw ..)
theorem unwind_gw (p : Program) (main : Bool) (fr : Frame) (callers : List Frame) (dying : Option Dying) (w : World) : w.drawn ≤ (gw (unwind p main fr callers dying w)).drawn := by
 unfold unwind; simp only [Sem.runT_eq]
 split
 ·rw [gw_after]
  split
  ·rename_i h; exact run_ok h
  ·rename_i h; exact run_halt h
 ·exact callDeferred_gw ..
 ·split
  ·exact Nat.le_refl _
  ·split
   ·exact Nat.le_refl _
   ·split
    ·exact Nat.le_refl _
    ·split
     ·split
      ·exact Nat.le_refl _
      ·split
       ·rename_i h; exact run_ok h
       ·rename_i h; exact run_halt h
       ·rename_i h; exact run_halt h
     ·split
      ·rw [endPrinting_gw]; exact Nat.le_refl _
      ·exact Nat.le_refl _
  ·split
   ·rw [doReturn_gw]; exact Nat.le_refl _
   ·rw [gw_after]
    split
    ·rename_i h; rw [doReturn_gw]; exact run_ok h
    ·rename_i h; exact run_halt h
    ·rename_i h; exact run_halt h
theorem early_gw (p : Program) (fr : Frame) (callers : List Frame) (dying : Option Dying) (g : Nat) (w : World) : w.drawn ≤ (gw (early p fr callers dying g w)).drawn := by
 unfold early
 dsimp only
 repeat' split
 all_goals first | exact Nat.le_refl _ | (have hh := run_ok ‹Sem.run p (choose (Question.early g)) w = Result.ok _ _›; exact hh) | (have hh := run_halt ‹Sem.run p (choose (Question.early g)) w = Result.halt _ _›; exact hh)
theorem endWith_gw (w : World) (fd : Nat) (text : ByteArray) (o : Outcome) : w.drawn ≤ (gw (endWith w fd text o)).drawn := by
 have h := sys_drawn w (.write fd text); unfold endWith
 dsimp only
 split
 ·rename_i he; rw [he] at h; exact ite_gw h h
 ·rename_i he; rw [he] at h; exact h
 ·rename_i he; rw [he] at h; exact h
theorem writeOn_gw (p : Program) (fr : Frame) (d : Dying) (f : Fatal) (w : World) : w.drawn ≤ (gw (writeOn p fr d f w)).drawn := by
 unfold writeOn; simp only [Sem.runT_eq]
 split
 ·exact Nat.le_refl _
 ·split
  ·rename_i h; exact run_ok (congrArg Prod.fst h)
  ·rename_i h; exact run_halt (congrArg Prod.fst h)
  ·rename_i h; exact run_halt (congrArg Prod.fst h)
  ·rename_i h; exact run_halt (congrArg Prod.fst h)
theorem die_gw (p : Program) (fr : Frame) (d : Dying) (w : World) : w.drawn ≤ (gw (die p fr d w)).drawn := by
 unfold die; simp only [Sem.runT_eq]
 split
 ·exact writeOn_gw ..
 ·split
  ·exact ite_gw (Nat.le_refl _) (endWith_gw ..)
  ·split
   ·exact Nat.le_refl _
   ·split
    ·rename_i h; exact run_ok h
    ·rename_i h; exact run_halt h
   ·rw [gw_after]
    split
    ·rename_i h; exact run_ok h
    ·rename_i h; exact run_ok h
    ·rename_i h; exact run_halt h
    ·rename_i h; rw [endPrinting_gw]; exact run_halt h
    ·exact Nat.le_refl _
   ·exact Nat.le_refl _
theorem apply_gw (p : Program) (fr : Frame) (callers : List Frame) (dying : Option Dying) (s : Sem Next) (w : World) (listen : Bool) : w.drawn ≤ (gw (stepG.apply p listen fr callers dying s w)).drawn := by
 unfold stepG.apply; simp only [Sem.runT_eq]; rw [gw_after]
 have hrr : (if listen = true then (s.run p w, s.events p w #[]) else (s.run p w, #[])).1 = s.run p w := by split <;> rfl
 rw [hrr]; generalize hr : s.run p w = r; have h := run_drawn p s w; rw [hr] at h
 cases r with
 | ok n w1 =>
  cases n with
  | recover =>
   change w.drawn ≤ (gw (match (match fr.roundOf with
        | some l => if p.follows .rangeFuncRecover then tryRecover fr callers else tryRecoverLoop l callers
        | none => tryRecover fr callers) with
    | some (v, callers) => GStep.go { frame := fr.finish v, callers, status := .running, dying } w1
    | none => GStep.go { frame := fr.finish .nilIface, callers, status := .running, dying } w1)).drawn
   split <;> exact h
  | callThen d resume saved wrapper =>
   change w.drawn ≤ (gw (match fr.todo with
    | .extern .. :: k => GStep.go { frame := { fr with todo := .call d wrapper resume saved :: k }, callers, status := .running, dying } w1
    | _ => .go { frame := Frame.ofExtern p d resume saved wrapper _, callers := fr :: callers, status := .running, dying } w1)).drawn
   split <;> exact h
  | row r args =>
   change w.drawn ≤ (gw (match fr.todo with
    | .extern .. :: k => GStep.go { frame := { fr with todo := .extern r args :: k }, callers, status := .running, dying } w1
    | _ => .go { frame := Frame.ofRow p r args _, callers := fr :: callers, status := .running, dying } w1)).drawn
   split <;> exact h
  | stack resume saved =>
   change w.drawn ≤ (gw (match fr.todo with
    | .extern .. :: k => GStep.go { frame := { fr with todo := .extern resume (saved.push (.tuple ((fr :: callers).toArray.map Frame.asData))) :: k }, callers, status := .running, dying } w1
    | _ => .go { frame := Frame.ofRow p resume (saved.push (.tuple ((fr :: callers).toArray.map Frame.asData))) _, callers := fr :: callers, status := .running, dying } w1)).drawn
   split <;> exact h
  | spawn d => exact ite_gw h h
  | _ => exact h
 | halt n w1 =>
  cases n with
  | fatal m => exact Nat.le_trans h (endFatal_gw ..)
  | unsupported u => cases u <;> first | exact h | exact Nat.le_trans h (early_gw ..)
  | _ => exact h
end Go.Proofs.YtkgkihichdcpmaaGreatDoor.Dr
namespace Go.Proofs.YtkgkihichdcpmaaGreatDoor.Dr
open Go
theorem elim_gw {α : Type} {o : Option α} {a : GStep} {f : α → GStep} {w : World} (h1 : w.drawn ≤ (gw a).drawn) (h2 : ∀ x, w.drawn ≤ (gw (f x)).drawn) : w.drawn ≤ (gw (o.elim a f)).drawn := by cases o; exact h1; exact h2 _
set_option maxHeartbeats 4000000 in
theorem exec_gw (p : Program) (main : Bool) (fr : Frame) (callers : List Frame) (dying : Option Dying) (w : World) (listen : Bool) : w.drawn ≤ (gw (stepG.exec p main listen fr callers dying w)).drawn := by
 unfold stepG.exec stepG.oper; simp only [Sem.runT_eq]
 have hk : ∀ (a b : GStep) (f : Nat → GStep), w.drawn ≤ (gw a).drawn → (∀ l, w.drawn ≤ (gw (f l)).drawn) → w.drawn ≤ (gw (match fr.roundOf with | none => a | some l => f l)).drawn := by
  intro a b f h1 h2
  split
  ·exact h1
  ·exact h2 _
 split
 all_goals try exact Nat.le_refl _
 all_goals try exact apply_gw ..
 all_goals try (refine elim_gw ?_ (fun x => ?_))
 all_goals try exact Nat.le_refl _
 all_goals try exact apply_gw ..
 all_goals repeat' (first | rw [gw_after] | split)
 all_goals first | exact Nat.le_refl _ | exact apply_gw .. | exact ite_gw (Nat.le_refl _) (Nat.le_refl _) | (rename_i h; with_reducible exact run_ok h) | (rename_i h; with_reducible exact run_halt h) | (rename_i h; rw [doReturn_gw]; exact run_ok h) | (rename_i h; exact Nat.le_trans (run_ok h) (apply_gw ..)) | skip
end Go.Proofs.YtkgkihichdcpmaaGreatDoor.Dr
namespace Go.Proofs.YtkgkihichdcpmaaGreatDoor.Dr
open Go
theorem stepG_gw (p : Program) (main : Bool) (g : Goroutine) (w : World) (listen : Bool) : w.drawn ≤ (gw (stepG p main g w listen)).drawn := by
 unfold stepG
 dsimp only
 split
 ·exact die_gw ..
 ·exact exec_gw ..
 ·exact unwind_gw ..
def Up (w : World) : Stepped → Prop
 | .next m => w.drawn ≤ m.world.drawn
 | .ended _ _ => True
theorem waitingAt_drawn {rest : Rest} {cases : Array CommCase} {w w' : World} (h : waitingAt rest cases w = some w') : w.drawn ≤ w'.drawn := by
 unfold waitingAt at h
 split at h
 ·split at h
  ·cases h; exact Nat.le_refl _
  ·cases h
 ·cases h; exact Nat.le_refl _
theorem communicate_up (p : Program) (rest : Rest) (gs : Array Goroutine) (i : Nat) (g : Goroutine) (cases : Array CommCase) (blocking : Bool) (shape : CommShape) (w : World) : Up w (communicate p rest gs i g cases blocking shape w).1 := by
 unfold communicate
 dsimp only
 repeat' split
 all_goals first | exact trivial | exact Nat.le_refl _ | skip
 all_goals first | (have h := run_ok ‹Sem.run p _ w = Result.ok (_, _, _) _›; exact h) | (have h := Nat.le_trans (run_ok ‹Sem.run p _ w = Result.ok (_, _, _) _›) (run_halt ‹Sem.run p (runtimePanic _) _ = Result.halt _ _›); exact h) | (have h := Nat.le_trans (run_ok ‹Sem.run p _ w = Result.ok (_, _, _) _›) (run_ok ‹Sem.run p (choose _) _ = Result.ok _ _›); exact h) | (have h := waitingAt_drawn ‹_›; exact h)
theorem look_up (p : Program) (gs : Array Goroutine) (rest : Rest) (w : World) : Up w (look p gs rest w) := by
 unfold look
 split
 ·dsimp only
  split
  ·trivial
  ·split
   ·trivial
   ·split
    ·rename_i h; have hh := run_ok h; exact hh
    ·trivial
    ·trivial
 ·trivial
theorem drain_drawn (w : World) (c : Nat) : (drain w c).2.drawn = w.drawn := by unfold drain; split <;> rfl
theorem retime_drawn (m : Machine) (k : Nat) (t : Timer) (a b : Nat) : (retime m k t a b).2.world.drawn = m.world.drawn := by
 unfold retime
 dsimp only
 split
 ·exact drain_drawn ..
 ·rfl
theorem timerOp_drawn (m m' : Machine) (op : TimerOp) (v : Value) (h : timerOp m op = .ok (v, m')) : m'.world.drawn = m.world.drawn := by
 unfold timerOp at h
 split at h
 ·split at h
  ·cases h; rfl
  ·split at h
   ·split at h
    ·cases h
    ·cases h; rfl
   ·cases h
 ·unfold timerOp.named at h
  split at h
  ·have h := Except.ok.inj h; have h2 : (retime m _ _ 0 _).2 = m' := congrArg Prod.snd h; rw [← h2]; exact retime_drawn ..
  ·cases h
 ·split at h
  ·rename_i m1 ho
   have hm : m1.world.drawn = m.world.drawn := by
    unfold timerOp.opened at ho
    split at ho
    ·split at ho
     ·cases ho; rfl
     ·cases ho
    ·cases ho; rfl
   unfold timerOp.named at h
   split at h
   ·have h := Except.ok.inj h; have h2 : (retime m1 _ _ _ _).2 = m' := congrArg Prod.snd h; rw [← h2, ← hm]; exact retime_drawn ..
   ·cases h
  ·cases h
 ·cases h; rfl
theorem serve_up (p : Program) (m : Machine) (k : Nat) : Up m.world (serve p m k) := by
 unfold serve
 split
 ·trivial
 ·exact Nat.le_refl _
 ·dsimp only
  split
  ·trivial
  ·exact Nat.le_refl _
theorem runT_up (p : Program) (m : Machine) (i : Nat) (listen : Bool) : Up m.world (Go.runT p m i listen).1 := by
 unfold Go.runT
 dsimp only
 have hg := stepG_gw p (i == 0) (m.gs.swapAt! i { (default : Goroutine) with status := .finished }).1 m.world listen; generalize stepG p (i == 0) (m.gs.swapAt! i { (default : Goroutine) with status := .finished }).1 m.world listen = s at hg ⊢
 have hup : ∀ (w1 : World) (s : Stepped), m.world.drawn ≤ w1.drawn → Up w1 s → Up m.world s := fun w1 s h1 h2 => by
  cases s with
  | next m => exact Nat.le_trans h1 h2
  | ended _ _ => trivial
 cases s with
 | ended o w _ => trivial
 | comm g cases blocking shape w _ => exact hup _ _ hg (communicate_up ..)
 | go g w _ => exact hg
 | spawn g child w _ => exact hg
 | count g w _ =>
  dsimp only
  split
  ·trivial
  ·exact hg
 | alone g on w _ => exact hg
 | collect g w _ => exact hup _ _ hg (look_up ..)
 | watch g w _ => exact hg
 | newcoro g c d w _ => exact hg
 | coroswitch g c exit w _ =>
  dsimp only
  split
  ·exact hg
  ·exact hg
  ·trivial
 | timer g op w _ =>
  dsimp only
  split
  ·rename_i h
   have := timerOp_drawn _ _ _ _ h; exact Nat.le_trans hg (Nat.le_of_eq this.symm)
  ·exact hg
  ·trivial
  ·trivial
def UpM (w : World) : Move → Prop
 | .goroutine m _ => w.drawn ≤ m.world.drawn
 | .machine s _ => Up w s
theorem askOn_up (p : Program) (m : Machine) : UpM m.world (askOn p m) := by
 unfold askOn
 dsimp only
 have pick : ∀ (m' : Machine), m.world.drawn ≤ m'.world.drawn → UpM m.world (match (choose (.sched (runnable m.gs m.world.os.mono).length)).run p m'.world with
   | .halt _ w => .machine (.ended (.stuck "sched" "") w)
   | .ok k world =>
    if (runnable m.gs m.world.os.mono).length ≤ 1 then .goroutine { m' with world } ((runnable m.gs m.world.os.mono).getD k 0) else
    match (choose (.extern "sched.slice" 65536)).run p world with
    | .halt _ w => .machine (.ended (.stuck "sched.slice" "") w)
    | .ok n world => .goroutine { m' with world, rest := { m'.rest with slice := if n = 0 then none else some ((runnable m.gs m.world.os.mono).getD k 0, n) } } ((runnable m.gs m.world.os.mono).getD k 0)) := by
  intro m' hm
  split
  ·trivial
  ·rename_i h1
   split
   ·exact Nat.le_trans hm (run_ok h1)
   ·split
    ·trivial
    ·rename_i h2
     exact Nat.le_trans hm (Nat.le_trans (run_ok h1) (run_ok h2))
 split
 ·trivial
 ·rename_i k world h1
  have h1 := run_ok h1
  have hup : ∀ (w1 : World) (s : Stepped), m.world.drawn ≤ w1.drawn → Up w1 s → Up m.world s := fun w1 s h1 h2 => by
   cases s with
   | next m => exact Nat.le_trans h1 h2
   | ended _ _ => trivial
  split
  ·exact hup world _ h1 (serve_up p { m with world := world } _)
  ·split
   ·split
    ·exact h1
    ·split
     ·exact h1
     ·split
      ·trivial
      ·trivial
   ·split
    ·exact pick { m with world := world } h1
    ·split
     ·trivial
     ·rename_i h2
      exact pick { m with world := _ } (Nat.le_trans h1 (run_ok h2))
     ·rename_i w2 h2
      have h2 := run_ok h2; exact Nat.le_trans h1 (show world.drawn ≤ w2.drawn from h2)
     ·rename_i k2 w2 h2
      have h2 := run_ok h2; exact pick (Machine.advanceTo { m with world := w2 } _) (Nat.le_trans h1 (show world.drawn ≤ w2.drawn from h2))
theorem UpM_trans {w w1 : World} {x : Move} (h : w.drawn ≤ w1.drawn) (h2 : UpM w1 x) : UpM w x := by
 cases x with
 | goroutine m i => exact Nat.le_trans h h2
 | machine s o =>
  cases s with
  | next m => exact Nat.le_trans h h2
  | ended _ _ => trivial
theorem ask_up (p : Program) (m : Machine) : UpM m.world (ask p m) := by
 unfold ask
 split
 ·split
  ·trivial
  ·rename_i w1 h1
   have h1 := run_ok h1; have h3 := look_up p m.gs m.rest w1
   split
   ·rename_i hl
    rw [hl] at h3; exact UpM_trans (Nat.le_trans h1 h3) (askOn_up p _)
   ·generalize look p m.gs m.rest w1 = s at h3 ⊢; exact UpM_trans (x := Move.machine s #[]) h1 h3
  ·rename_i w1 _ h1
   have h1 := run_ok h1; exact UpM_trans h1 (askOn_up p { m with world := w1 })
 ·exact askOn_up p m
theorem move_up (p : Program) (m : Machine) : UpM m.world (move p m) := by
 unfold move
 split
 ·split
  ·exact Nat.le_refl _
  ·trivial
 ·split
  ·split
   ·exact Nat.le_refl _
   ·exact ask_up p { m with rest := { m.rest with slice := none } }
  ·exact ask_up p m
theorem step_up (p : Program) (m : Machine) : Up m.world (step p m) := by
 unfold step stepT; have h := move_up p m
 split
 ·rename_i m' i hm
  rw [hm] at h; have h2 := runT_up p m' i true; generalize (Go.runT p m' i true).1 = s at h2 ⊢
  cases s with
  | next m2 => exact Nat.le_trans h h2
  | ended _ _ => trivial
 ·rename_i hm
  rw [hm] at h; exact h
theorem runN_up (p : Program) : ∀ (n : Nat) (m : Machine), Up m.world (runN p n m)
 | 0, m => Nat.le_refl _
 | n + 1, m => by
  unfold runN; have h := step_up p m
  split
  ·rename_i m' hs
   rw [hs] at h; have h2 := runN_up p n m'; generalize runN p n m' = s at h2 ⊢
   cases s with
   | next m2 => exact Nat.le_trans h h2
   | ended _ _ => trivial
  ·cases h3 : step p m with
   | next m' => rename_i h4; exact absurd h3 (h4 m')
   | ended _ _ => trivial
end Go.Proofs.YtkgkihichdcpmaaGreatDoor.Dr
namespace Go.Proofs.YtkgkihichdcpmaaGreatDoor.Dr
open Go Go.RowKit
theorem calls_drawn {P : Program} {f : FuncId} {args : Array Value} {w : World} {R : Ending → World → Prop} (h : Calls P f args w R) : Calls P f args w fun e w' => R e w' ∧ (e ≠ .outgrown → w.drawn ≤ w'.drawn) := by
 intro cs; obtain ⟨e, w', fr, r, hc, hf, hl⟩ := h cs; refine ⟨e, w', fr, ⟨r, fun he => ?_⟩, hc, hf, hl⟩
 have hs : Steps P (lone (Frame.enter P f args .normal) cs w) (lone fr cs w') → w.drawn ≤ w'.drawn := by
  rintro ⟨n, hn⟩; have h := runN_up P n (lone (Frame.enter P f args .normal) cs w); rw [hn] at h; exact h
 cases e with
 | returned v => exact hs hc
 | panicked c => exact hs hc
 | outgrown => exact absurd rfl he
theorem below_grow {w w' : World} (h : Below w.heap.size w w') (hd : w.drawn ≤ w'.drawn) : ∃ q os, w' = Go.Sort.grow (w.drewN q) os := by
 refine ⟨w'.drawn - w.drawn, w'.heap.extract w.heap.size w'.heap.size, ?_⟩; have h1 := h.os; have h2 := h.tape; have h3 := h.output; have h4 := h.size; have h5 := h.block
 cases w with
 | mk hp tp dr os out =>
 cases w' with
 | mk hp' tp' dr' os' out' =>
 simp only at h1 h2 h3 h4 h5 hd; subst h1 h2 h3; unfold Go.Sort.grow World.drewN; simp only [World.mk.injEq, and_true, true_and]; refine ⟨?_, by omega⟩
 apply Array.ext_getElem?
 intro k; rw [Array.getElem?_append]
 split
 ·exact h5 k ‹_›
 ·rw [Array.getElem?_extract]
  split
  ·congr 1; omega
  ·rw [Array.getElem?_eq_none (by omega)]
end Go.Proofs.YtkgkihichdcpmaaGreatDoor.Dr
end
section
namespace Go.Proofs.YtkgkihichdcpmaaGreatDoor.So
open Go Go.Shelf Go.RowKit Go.Lib Go.Sort Go.Proofs
def cfI {k : Nat} (i j : Fin (k + 1)) : Int := if i.val < j.val then -1 else if j.val < i.val then 1 else 0
theorem ltOf_cfI {k : Nat} (i j : Fin (k + 1)) : ltOf cfI i j = decide (i.val < j.val) := by
 unfold ltOf cfI
 by_cases h : i.val < j.val
 ·simp [h]
 ·by_cases h2 : j.val < i.val <;> simp [h, h2]
theorem swo_cfI (k : Nat) : SWO (ltOf (cfI (k := k))) where
 irrefl := fun x => by simp [ltOf_cfI]
 trans := fun x y z h1 h2 => by simp only [ltOf_cfI, decide_eq_true_eq] at *; omega
 ntrans := fun x y z h1 h2 => by simp only [ltOf_cfI, decide_eq_false_iff_not] at *; omega
theorem sortWorld_size {α : Type} [Inhabited α] (enc : α → Value) (w : World) (blk off m : Nat) (dk : Array α) (os : Array Obj) : w.heap.size ≤ (sortWorld enc w blk off m dk os).heap.size := by
 unfold sortWorld; rw [Go.Sort.size_grow, size_putRow]; exact Nat.le_add_right _ _
theorem sortWorld_block {α : Type} [Inhabited α] (enc : α → Value) (w : World) (blk off m : Nat) (dk : Array α) (os : Array Obj) {i : Nat} (hi : i < w.heap.size) (hne : i ≠ blk) : (sortWorld enc w blk off m dk os).heap[i]? = w.heap[i]? := by
 unfold sortWorld; rw [Go.Sort.heap_grow_old _ _ (by rw [size_putRow]; exact hi)]; unfold putRow mapBlock
 show ((Go.Sort.ahead w m).heap.modify blk _)[i]? = _
 rw [Array.getElem?_modify, if_neg (fun e => hne e.symm)]; rfl
theorem sortWorld_grownBy {α : Type} [Inhabited α] (enc : α → Value) (w : World) (blk off m : Nat) (dk : Array α) (os : Array Obj) : w.grownBy (sortWorld enc w blk off m dk os) (some blk) :=
 ⟨rfl, rfl, rfl, sortWorld_size .., fun i hi hne => sortWorld_block _ _ _ _ _ _ _ hi (fun e => hne (by rw [e]))⟩
theorem sort_rows {P : Program} {ρ : Ren} (L : SlLaysF.n6 P ρ) (k : Nat) (enc : Fin (k + 1) → Value) (h1 : OneCell enc) (g : Nat) (cb : Array Value) (blk cap : Nat) (d : List (Fin (k + 1))) (hd : d.length = k + 1) (hp : d.Perm (List.finRange (k + 1))) (w : World)
  (eg : ∀ args w, (callFunc g args).run P w = .ok (.enter g args) w)
  (hcmp : ∀ W, w.grownBy W (some blk) → ∀ i j, Calls P g (#[enc i, enc j] ++ cb) W fun e w' => e = .returned (.int .i64 (cfI i j)) ∧ Below W.heap.size W w')
  (hH : Holds enc w blk 0 d.toArray) (hblk : blk < w.heap.size) (hsz : k + 1 < 4611686018427387904) :
  Calls P (ρ.f 6) #[.slice (some ⟨blk, 0, none⟩) (k + 1) cap, .func (.func g) #[] cb] w fun e w' => e = .returned (.tuple #[]) ∧ ∃ m os, w' = sortWorld enc w blk 0 m (List.finRange (k + 1)).toArray os := by
 have hs : d.toArray.size = k + 1 := by simpa using hd
 have h := Any.slices_SortFunc L enc h1 cfI (swo_cfI k) g cb blk 0 cap d.toArray w eg (fun m os dk hdk x y => by
  refine (Dr.calls_drawn (hcmp _ (sortWorld_grownBy enc w blk 0 m dk os) x y)).mono ?_; rintro e w' ⟨⟨rfl, hb⟩, hdr⟩
  exact ⟨rfl, Dr.below_grow hb (hdr (by simp))⟩) hH hblk (by rw [hs]; exact hsz)
 rw [hs] at h; refine h.mono ?_; rintro e w' ⟨rfl, d', n, os, hperm, hsort, rfl⟩; refine ⟨rfl, n, os, ?_⟩; have hu := sorted_unique_holds (swo_cfI k) (fun x y a b => by simp only [ltOf_cfI, decide_eq_false_iff_not] at a b; exact Fin.ext (by omega)) d.toArray d' (by rw [hs]; exact hperm) (by rw [hs]; exact hsort)
 have hz : (List.finRange (k + 1)).toArray.size = k + 1 := by simp
 have hu2 := sorted_unique_holds (swo_cfI k) (fun x y a b => by simp only [ltOf_cfI, decide_eq_false_iff_not] at a b; exact Fin.ext (by omega)) d.toArray (List.finRange (k + 1)).toArray
  ⟨by rw [hs, hz], fun i hi => by
   rw [hs] at hi
   rw [getElem!_neg _ _ (by rw [hz]; omega), getElem!_neg _ _ (by rw [hs]; omega)], by
   rw [hs]
   have ex : ∀ (l : Array (Fin (k + 1))), l.size = k + 1 → l.extract 0 (k + 1) = l := fun l hl => by
    apply Array.ext
    ·simp [hl]
    ·intro i h1 h2; simp
   rw [ex _ hz, ex _ hs]
   simpa using hp.symm⟩
  (fun i j h1 h2 h3 => by
   rw [hs] at h3; rw [getElem!_pos _ _ (by rw [hz]; omega), getElem!_pos _ _ (by rw [hz]; omega), ltOf_cfI]; simp
   omega)
 rw [Array.toList_inj.1 (hu.trans hu2.symm)]
end Go.Proofs.YtkgkihichdcpmaaGreatDoor.So
end
section
namespace Go.Proofs.YtkgkihichdcpmaaGreatDoor.So
open Go
theorem idx_at {α : Type} [BEq α] [LawfulBEq α] : ∀ (s : List α), s.Nodup → ∀ (i : Nat) (h : i < s.length), s.idxOf s[i] = i
 | [], _, i, h => absurd h (by simp)
 | x :: s, hn, 0, h => by simp
 | x :: s, hn, i + 1, h => by
  have hi : i < s.length := by simpa using h
  have hx : x ≠ s[i] := fun e => (List.nodup_cons.1 hn).1 (e ▸ List.getElem_mem _)
  simp only [List.getElem_cons_succ]; rw [List.idxOf_cons, show (x == s[i]) = false by simpa using hx, cond_false, idx_at s (List.nodup_cons.1 hn).2 i hi]
theorem index_rows (acc s : List (List Int)) (inner : List Value) (k : Nat) (hk : s.length = k + 1) (hp : acc.Perm s) (hn : s.Nodup) (hi : inner.length = acc.length) :
  ∃ (d : List (Fin (k + 1))) (enc : Fin (k + 1) → Value), d.length = k + 1 ∧ d.Perm (List.finRange (k + 1)) ∧ inner = d.map enc ∧ ∀ i : Fin (k + 1), ∃ j, ∃ h : j < acc.length, acc[j] = s.getD i.val [] ∧ inner[j]? = some (enc i) := by
 have hl : acc.length = k + 1 := by rw [hp.length_eq, hk]
 have hna : acc.Nodup := hp.nodup_iff.2 hn
 have hm : ∀ x, x ∈ acc → s.idxOf x < k + 1 := fun x hx => by rw [← hk]; exact List.idxOf_lt_length_iff.2 (hp.mem_iff.1 hx)
 have hm2 : ∀ i : Fin (k + 1), acc.idxOf (s.getD i.val []) < acc.length := fun i => List.idxOf_lt_length_iff.2 (hp.mem_iff.2 (by
  rw [List.getD_eq_getElem?_getD, List.getElem?_eq_getElem (by rw [hk]; exact i.isLt)]
  exact List.getElem_mem _))
 refine ⟨acc.map fun x => Fin.ofNat (k + 1) (s.idxOf x), fun i => inner.getD (acc.idxOf (s.getD i.val [])) undef, by simpa using hl, ?_, ?_, ?_⟩
 ·refine (hp.map _).trans (List.Perm.of_eq ?_)
  apply List.ext_getElem
  ·simpa using hk
  ·intro i h1 h2
   have h1' : i < s.length := by simpa using h1
   simp only [List.getElem_map, List.getElem_finRange]
   apply Fin.ext
   simp only [Fin.val_ofNat]; rw [idx_at s hn i h1', Nat.mod_eq_of_lt (by omega)]; rfl
 ·apply List.ext_getElem
  ·simpa using hi
  ·intro j h1 h2
   have hj : j < acc.length := by omega
   simp only [List.getElem_map]
   have hx : s.getD (Fin.ofNat (k + 1) (s.idxOf acc[j])).val [] = acc[j] := by
    simp only [Fin.val_ofNat]; rw [Nat.mod_eq_of_lt (hm _ (List.getElem_mem _)), List.getD_eq_getElem?_getD, List.getElem?_eq_getElem (by rw [hk]; exact hm _ (List.getElem_mem _))]; simp
   rw [hx, idx_at acc hna j hj, List.getD_eq_getElem?_getD, List.getElem?_eq_getElem h1]; rfl
 ·intro i; refine ⟨acc.idxOf (s.getD i.val []), hm2 i, by simp, ?_⟩
  have hlt : acc.idxOf (s.getD i.val []) < inner.length := by rw [hi]; exact hm2 i
  show _ = some (inner.getD (acc.idxOf (s.getD i.val [])) undef)
  rw [List.getD_eq_getElem?_getD (l := inner), List.getElem?_eq_getElem hlt]; rfl
end Go.Proofs.YtkgkihichdcpmaaGreatDoor.So
end
section
namespace Go.Proofs.YtkgkihichdcpmaaGreatDoor.H
open Go.RowKit Go.Shelf Go.Proofs.YtkgkihichdcpmaaGreatDoorW.PrintWords Go.Proofs.YtkgkihichdcpmaaGreatDoorW.PrintLast Go.Proofs.YtkgkihichdcpmaaGreatDoorW.PrintMore
set_option linter.unusedVariables false
set_option linter.unusedSimpArgs false
def RA (base : Nat) (W : World) (x : List Int) (cs : List Value) : Prop :=
 ∃ A c, cs = [.slice A x.length c] ∧ x.length ≤ c ∧ Kd.C (Kd.int .i64) W A x.length x ∧ (x ≠ [] → ∀ a, A = some a → a.block < base ∨ ∃ cells, W.heap[a.block]? = some (.cells cells 3 (0, 0)))
theorem C_int_move {W W' : World} {A : Option Addr} {x : List Int} (h : Kd.C (Kd.int .i64) W A x.length x) (hm : x ≠ [] → ∀ a, A = some a → W'.heap[a.block]? = W.heap[a.block]?) : Kd.C (Kd.int .i64) W' A x.length x := by
 refine ⟨h.1, h.2.1, fun h0 => ?_⟩; obtain ⟨ad, e, hc⟩ := h.2.2 h0; refine ⟨ad, e, fun j p hj => ?_⟩; obtain ⟨c, h1, h2, h3⟩ := hc j p hj; refine ⟨c, h1, h2, fun i u hu => ?_⟩; rw [← h3 i u hu]
 have hb : ∀ k, (ad.add k).block = ad.block := fun k => by unfold Addr.add; split <;> rfl
 simp only [World.cell?, hb]; rw [hm (by intro e; rw [e] at h0; exact absurd h0 (by simp)) ad e]
theorem C_int_lt {W : World} {A : Option Addr} {x : List Int} (h : Kd.C (Kd.int .i64) W A x.length x) (hx : x ≠ []) (a : Addr) (ha : A = some a) : a.block < W.heap.size := by
 obtain ⟨ad, e, hb, _⟩ := C_int_holds h 0 (List.length_pos_iff.2 hx); rw [e] at ha; injection ha with ha
 rw [← ha]; exact hb
theorem RA.move {base : Nat} {W W' : World} {x : List Int} {cs : List Value} (h : RA base W x cs) (hm : ∀ k, k < W.heap.size → (k < base ∨ ∃ cells, W.heap[k]? = some (.cells cells 3 (0, 0))) → W'.heap[k]? = W.heap[k]?) : RA base W' x cs := by
 obtain ⟨A, c, e, hl, hc, ht⟩ := h; refine ⟨A, c, e, hl, C_int_move hc fun hx a ha => hm _ (C_int_lt hc hx a ha) (ht hx a ha), fun hx a ha => ?_⟩
 rcases ht hx a ha with h | ⟨cells, h⟩
 ·exact .inl h
 ·exact .inr ⟨cells, (hm _ (C_int_lt hc hx a ha) (.inr ⟨cells, h⟩)).trans h⟩
theorem RA.below {base : Nat} {W W' : World} {x : List Int} {cs : List Value} (h : RA base W x cs) (hb : Below W.heap.size W W') : RA base W' x cs := h.move fun k hk _ => hb.block k hk
theorem RA.grown {base : Nat} {W W' : World} {x : List Int} {cs : List Value} (h : RA base W x cs) {row : Option Nat} (hg : W.grownBy W' row) (hr : ∀ g, row = some g → base ≤ g ∧ ∀ cells, W.heap[g]? ≠ some (.cells cells 3 (0, 0))) : RA base W' x cs :=
 h.move fun k hk hor => hg.block k hk fun e => by
  obtain ⟨h1, h2⟩ := hr k e.symm
  rcases hor with h | ⟨cells', h⟩
  ·omega
  ·exact h2 _ h
theorem RA.one {base : Nat} {W : World} {x : List Int} {cs : List Value} (h : RA base W x cs) : cs.length = 1 ∧ ∀ u ∈ cs, u.oneCell' = true := by
 obtain ⟨A, c, rfl, _⟩ := h; exact ⟨rfl, fun u hu => by rw [List.mem_singleton.1 hu]; rfl⟩
theorem RA.of_C {W : World} {A : Option Addr} {c : Nat} {x : List Int} (h : Kd.C (Kd.int .i64) W A x.length x) (hc : x.length ≤ c) : RA W.heap.size W x [.slice A x.length c] :=
 ⟨A, c, rfl, hc, h, fun hx a ha => .inl (C_int_lt h hx a ha)⟩
theorem RA.of_R {base b : Nat} {ok : Nat → Prop} {W : World} {v : Value} {x : List Int} (h : Kd.R (Kd.int .i64) 3 W b ok v x) : RA base W x [v] := by
 obtain ⟨inner, ho⟩ := Kd.R_own h; obtain ⟨A, c, rfl, hl, hC⟩ := Kd.R_reads h; refine ⟨A, c, rfl, hl, hC, fun hx a ha => .inr (own_typed ho a.block ?_)⟩
 rw [ha]; rfl
theorem RA.lift {base base' : Nat} {W : World} {x : List Int} {cs : List Value} (h : RA base W x cs) (hb : base ≤ base') : RA base' W x cs := by
 obtain ⟨A, c, e, hl, hC, ht⟩ := h; exact ⟨A, c, e, hl, hC, fun hx a ha => (ht hx a ha).imp (fun h => Nat.lt_of_lt_of_le h hb) id⟩
theorem RA.open_ {base : Nat} {W : World} {x : List Int} {v : Value} (h : RA base W x [v]) : ∃ A c, v = .slice A x.length c ∧ x.length ≤ c ∧ Kd.C (Kd.int .i64) W A x.length x := by
 obtain ⟨A, c, e, hl, hC, _⟩ := h; injection e with e; exact ⟨A, c, e, hl, hC⟩
def RowsOf (base : Nat) (W : World) (v : Value) (rows : List (List Int)) : Prop := OwnRow (RA base W) 28 1 W base v rows
theorem RowsOf.nil (base : Nat) (W : World) : RowsOf base W (.slice none 0 0) [] := OwnRow.none_ _ _ _ _ _
theorem RowsOf.below {base : Nat} {W W' : World} {v : Value} {rows : List (List Int)} (h : RowsOf base W v rows) (hb : Below W.heap.size W W') : RowsOf base W' v rows := (OwnRow.below h hb).imp_ fun _ _ hr => hr.below hb
theorem RowsOf.grown {base : Nat} {W W' : World} {v : Value} {rows : List (List Int)} (h : RowsOf base W v rows) {row : Option Nat} (hg : W.grownBy W' row) (hr : ∀ g, row = some g → base ≤ g ∧ ∀ cells, W.heap[g]? ≠ some (.cells cells 3 (0, 0))) (hne : v.ownBlock = none ∨ v.ownBlock ≠ row) : RowsOf base W' v rows :=
 (OwnRow.other h hg hne).imp_ fun _ _ h => h.grown hg hr
theorem RowsOf.reads {base : Nat} {W : World} {v : Value} {rows : List (List Int)} (h : RowsOf base W v rows) : ∃ A c, v = .slice A rows.length c ∧ rows.length ≤ c ∧ Kd.C (Kd.slice 3 (Kd.int .i64)) W A rows.length rows := by
 obtain ⟨A, c, e, hl, hr⟩ := OwnRow.reads h; refine ⟨A, c, e, hl, hr.1, hr.2.1, fun h0 => ?_⟩; obtain ⟨ad, ea, hc⟩ := hr.2.2 h0; refine ⟨ad, ea, fun j p hj => ?_⟩; obtain ⟨cs, h1, h2, h3⟩ := hc j p hj; obtain ⟨A', c', rfl, hl', hC, _⟩ := h2; exact ⟨_, rfl, ⟨A', c', rfl, hl', hC⟩, h3⟩
theorem RowsOf.block {base : Nat} {W : World} {v : Value} {rows : List (List Int)} (h : RowsOf base W v rows) (g : Nat) (hg : v.ownBlock = some g) : base ≤ g ∧ g < W.heap.size ∧ ∃ cells, W.heap[g]? = some (.cells cells 28 (0, 0)) := by
 obtain ⟨inner, ho, _⟩ := h; exact ⟨own_base ho g hg, own_lt ho g hg, own_typed ho g hg⟩
theorem RowsOf.free {base : Nat} {W : World} {v : Value} {rows : List (List Int)} (h : RowsOf base W v rows) (g : Nat) (hg : v.ownBlock = some g) : base ≤ g ∧ ∀ cells, W.heap[g]? ≠ some (.cells cells 3 (0, 0)) := by
 obtain ⟨b1, _, cells, b3⟩ := RowsOf.block h g hg; exact ⟨b1, fun c e => by rw [b3] at e; injection e with e; injection e with _ e _; exact absurd e (by decide)⟩
theorem C_rows_at {w : World} {A : Option Addr} {l : List (List Int)} (h : Kd.C (Kd.slice 3 (Kd.int .i64)) w A l.length l) (i : Nat) (hi : i < l.length) : ∃ ad B c, A = some ad ∧ w.cell? (ad.add i) = some (.slice B (l.getD i []).length c) ∧ (l.getD i []).length ≤ c ∧ Kd.C (Kd.int .i64) w B (l.getD i []).length (l.getD i []) := by
 obtain ⟨ad, e, hc⟩ := h.2.2 (by omega); obtain ⟨cs, _, ⟨B, c, rfl, hl, hC⟩, hcell⟩ := hc i _ (List.getElem?_eq_getElem hi)
 have hd : l.getD i [] = l[i] := by rw [List.getD_eq_getElem?_getD, List.getElem?_eq_getElem hi]; rfl
 rw [hd]; refine ⟨ad, B, c, e, ?_, hl, hC⟩; have := hcell 0 _ rfl
 rwa [show i * Kd.sz (Kd.slice 3 (Kd.int .i64)) + 0 = i from Nat.mul_one i] at this
theorem info28_own : (Tryz.prog.info? 28).map (fun i => (i.zero, i.size, i.bytes)) = some (some (.slice none 0 0), 1, 24) := by kernel_rfl
section
variable {P : Program} {ops : Array Oper} {rest : List Oper} {o : Oper} {a : Act} {Q : Exit → Act → World → Prop}
theorem RowsOf.append {w0 W : World} (base : Nat) (hgd : o.guard = none) (s x : Operand) (t : TypeId) (ho : o.op = .call { callee := .builtin .append, args := #[s, x], argTypes := #[t, t] })
  (ht : P.underlying t = some (.slice 28)) (hinfo : (P.info? 28).map (fun i => (i.zero, i.size, i.bytes)) = some (some (.slice none 0 0), 1, 24))
  (v : Value) (rows : List (List Int)) (r : List Int) (y : Value) (hs : a.eval s = v) (hx : a.eval x = .slice (some ⟨W.heap.size, 0, none⟩) 1 1) (hp : RA base W r [y])
  (HO : RowsOf base W v rows) (HB : Below base w0 W) (hbase : base ≤ W.heap.size) (hl : rows.length + 1 ≤ 1000000)
  (h : ∀ v1 w1, RowsOf base w1 v1 (rows ++ [r]) → Below base w0 w1 → W.grownBy w1 v.ownBlock → (v1.ownBlock = v.ownBlock ∨ ∃ b, v1.ownBlock = some b ∧ W.heap.size ≤ b) → wpList P ops Q rest (a.put o.dst v1) w1) :
  wpList P ops Q (o :: rest) a (W.alloc (.cells #[y] 28)) := by
 have := hp.one; refine OwnRow.append (R := RA base W) (w0 := w0) (W := W) base hgd s x t 28 (.slice none 0 0) 1 24 ho ht hinfo rfl (by decide) (by decide) v rows r [y] hs hx hp this.1 this.2 HO HB hbase (by omega) ?_; intro v1 w1 h1 h2 h3 h4; refine h v1 w1 (h1.imp_ fun _ _ hr => hr.grown h3 fun g hg => ?_) h2 h3 h4; exact (RowsOf.free HO g hg)
end
end Go.Proofs.YtkgkihichdcpmaaGreatDoor.H
end
section
namespace Go.Proofs.YtkgkihichdcpmaaGreatDoor.H
open Go Go.RowKit Go.Shelf
variable {F : Fence} {n : Nat} {P : Program}
def SeqX {α : Type} (F : Fence) (n : Nat) (P : Program) (g : Nat) (lb : Array Value) (encs : α → Array Value) (X : α → World → Prop) (Kp : World → World → Prop) (S : List α → Prop) (N : Nat) (w : World) : Prop :=
 ∀ (l : Nat) (J : List α → World → Prop) (W : World), Below w.heap.size w W → AbidesFrom W.heap.size J →
  (∀ pre x W1, J pre W1 → X x W1 → pre.length < N → YieldAt F (n - 1) P l (encs x) W1 fun e W' => e = .returned (.bool true) ∧ J (pre ++ [x]) W' ∧ Kp W1 W') →
  J [] W →
  CallsIn F n P g (#[.func (.yield l) #[] #[]] ++ lb) W fun e W' => (∃ v, e = .returned v) ∧ ∃ xs, S xs ∧ J xs W'
def goesOn {α : Type} (B : Nat) (Kp : World → World → Prop) (I : List α → World → Prop) (xs : List α) (W : World) : Exit → Act → World → Prop
 | .normal, _, W' => KeepsFrom B W W' ∧ Kp W W' ∧ I xs W'
 | _, _, _ => False
theorem wpIn_rangeFunc_X {α : Type} {g : Operand} {ps : Array Tmp} {assign body : Code} {Q : Exit → Act → World → Prop} {a : Act} {w : World}
  (hro : F.round = none) (h1 : 1 ≤ n) {gf : Nat} {lb : Array Value} (hg : a.eval g = .func (.func gf) #[] lb) (hFg : F.fn gf) (eg : ∀ args w, (callFunc gf args).run P w = .ok (.enter gf args) w)
  {encs : α → Array Value} {X : α → World → Prop} {Kp : World → World → Prop} {S : List α → Prop} {N : Nat} {w0 : World} (hseq : SeqX F (n - 1) P gf lb encs X Kp S N w0)
  (hKt : ∀ {A B C : World}, Kp A B → Kp B C → Kp A C) (hKb : ∀ (W : World) (l : Nat) (o o' : Obj), w.heap.size ≤ l → W.heap[l]? = some o → o.isCells = false → o.isWalk = false → Kp W (W.putObj l o')) (hb0 : Below w0.heap.size w0 w) (hps : ∀ x, (encs x).size = ps.size)
  (I : List α → World → Prop) (hI : OwnFrom w.heap.size I) (hX : OwnFrom w.heap.size X) (h0 : I [] w) (a₁ : α → Act)
  (hassign : ∀ (l : Nat) (x : α) (W : World) (K : Act → World → Prop), K (a₁ x) W →
   assign.wpIn (F.inRound l) (n - 1 - 1) P (Exit.then K (fun _ _ _ => False)) { tmps := (ps.zip (encs x)).foldl (fun t (p, v) => t.setIfInBounds p v) a.tmps, defers := [] } W)
  (hbody : ∀ (l : Nat) (pre : List α) (x : α) (W : World), I pre W → X x W → pre.length < N → body.wpIn (F.inRound l) (n - 1 - 1) P (goesOn w.heap.size Kp I (pre ++ [x]) W) (a₁ x) W)
  (hdone : ∀ (D : Nat) (xs : List α) (W : World), w.heap.size ≤ D → S xs → I xs W → W.heap[D]? = some (.deferred (some [])) → Q .normal { a with defers := { target := .collected D, args := #[] } :: a.defers } W) :
  (Code.rangeFunc g ps assign body).wpIn F n P Q a w := by
 refine wpIn_rangeFunc ?_; intro fn hfn; rw [hro]
 obtain ⟨st, hst⟩ : ∃ st : LoopState → Option Code → Loop, st = fun q jump => { state := q, pending := jump, fn, tmps := a.tmps, params := ps, assign, body, defers := w.heap.size } := ⟨_, rfl⟩
 obtain ⟨W1, hW1⟩ : ∃ W1, (w.alloc (.deferred (some []))).alloc (.loop (st .ready none)) = W1 := ⟨_, rfl⟩
 have atL : W1.heap[w.heap.size + 1]? = some (.loop (st .ready none)) := by
  rw [← hW1]; have := World.alloc_heap_new (w.alloc (.deferred (some []))) (.loop (st .ready none)); rwa [World.size_alloc] at this
 have atD : W1.heap[w.heap.size]? = some (.deferred (some [])) := by
  rw [← hW1]; exact (Below.heap_alloc _ _ _ (by simp)).trans (World.alloc_heap_new w _)
 have hI1 : I [] W1 := by rw [← hW1]; exact hI.alloc _ (hI.alloc _ h0)
 have hb1 : Below w0.heap.size w0 W1 := by
  rw [← hW1]; exact hb0.trans ((((Below.refl _ w).alloc (Nat.le_refl _) _).alloc (by simp) _).mono hb0.size)
 have hsz1 : W1.heap.size = w.heap.size + 2 := by rw [← hW1]; simp
 refine ⟨w.heap.size + 1, [{ target := .collected w.heap.size, args := #[] }], W1, { target := .fn (.func gf) lb, args := #[.func (.yield (w.heap.size + 1)) #[] #[]] }, W1, gf,
  #[.func (.yield (w.heap.size + 1)) #[] #[]] ++ lb, W1, ?_, ?_, ?_, ?_, fun _ => h1, ?_⟩
 ·rw [← hW1, hst]; exact run_enterLoop_outer _ _ _ _ _
 ·simp only [resolve, hg]; simp [go_sem]
 ·intro f' hf'; simp [Target.leads] at hf'; subst hf'; exact hFg
 ·simp [invoke, go_sem, eg]
 ·refine (hseq (w.heap.size + 1) (fun pre W => I pre W ∧ W.heap[w.heap.size + 1]? = some (.loop (st .ready none)) ∧ W.heap[w.heap.size]? = some (.deferred (some []))) W1 hb1 ?_ ?_ ⟨hI1, atL, atD⟩).mono ?_
  ·intro s A B row hs hg' hr; refine ⟨hI s A B row hs.1 hg' (fun r e => ?_), (grownBy_keeps hg' (fun r e => (hr r e).2) hs.2.1 rfl).trans hs.2.1, (grownBy_keeps hg' (fun r e => (hr r e).2) hs.2.2 rfl).trans hs.2.2⟩; obtain ⟨hB, o, ho, hw⟩ := hr r e; exact ⟨by omega, o, ho, Obj.not_cells_of_walk hw⟩
  ·rintro pre x W ⟨hi, hl, hk⟩ hx hlen; have hlt : w.heap.size + 1 < W.heap.size := (Array.getElem?_eq_some_iff.1 hl).1; have hy := run_yield (P := P) (args := encs x) hl (by rw [hst]; exact hps x); rw [hst] at hy; refine ⟨fn, _, assign, body, hy, roundIn_of_wpIn hfn (hassign _ x W _ ⟨_, run_beginRound hl (by rw [hst]), ?_⟩)⟩; have hl2 : (W.putObj (w.heap.size + 1) (.loop { st .ready none with state := .busy })).heap[w.heap.size + 1]? = some (.loop { st .ready none with state := .busy }) := World.putObj_heap_same hlt; have hk2 : (W.putObj (w.heap.size + 1) (.loop { st .ready none with state := .busy })).heap[w.heap.size]? = some (.deferred (some [])) := (World.putObj_heap_other (by omega)).trans hk; have hw2 : Kp W (W.putObj (w.heap.size + 1) (.loop { st .ready none with state := .busy })) := hKb _ _ _ _ (by omega) hl rfl rfl; refine wpIn_mono (hbody _ pre x _ (hI.putObj _ hi (by omega) hl rfl) (hX.putObj _ hx (by omega) hl rfl) hlen) ?_; rintro e a3 W3 hp
   cases e with
   | normal =>
    obtain ⟨hk3, hkp3, hi3⟩ := hp; have hl3 := hk3.same _ _ (by omega) hl2 rfl; have hr := run_endRound (P := P) none hl3; rw [hst] at hr hl3; have hl4 : (W3.putObj (w.heap.size + 1) (.loop (st .ready none))).heap[w.heap.size + 1]? = some (.loop (st .ready none)) := World.putObj_heap_same (Array.getElem?_eq_some_iff.1 hl3).1; refine ⟨_, _, hr, rfl, ⟨?_, ?_, ?_⟩, ?_⟩
    ·exact hI.putObj _ hi3 (by omega) hl3 rfl
    ·rw [hst] at hl4 ⊢; exact hl4
    ·exact (World.putObj_heap_other (by omega)).trans (hk3.same _ _ (Nat.le_refl _) hk2 rfl)
    ·exact hKt (hKt hw2 hkp3) (hKb _ _ _ _ (by omega) hl3 rfl rfl)
   | ret => exact hp.elim
   | exit id => exact hp.elim
   | goto t => exact hp.elim
   | panic ch => exact hp.elim
   | outgrown => exact hp.elim
  ·rintro e W2 ⟨⟨v, rfl⟩, xs, hS, hi, hl, hk⟩; exact ⟨none, _, by have := run_endLoop (P := P) hl (by rw [hst]; simp); rw [hst] at this; exact this, hdone _ xs _ (Nat.le_refl _) hS (hI.putObj _ hi (by omega) hl rfl) ((World.putObj_heap_other (by omega)).trans hk)⟩
end Go.Proofs.YtkgkihichdcpmaaGreatDoor.H
end
section
namespace Go.Proofs.YtkgkihichdcpmaaGreatDoor.H
open Go.RowKit Go.Shelf Go.Proofs.YtkgkihichdcpmaaGreatDoorW.PrintWords Go.Proofs.YtkgkihichdcpmaaGreatDoorW.PrintLast Go.Proofs.YtkgkihichdcpmaaGreatDoorW.PrintMore
attribute [local go_sem] max2_int min2_int max_two min_two max_three min_three max_four min_four
set_option linter.unusedVariables false
set_option linter.unusedSimpArgs false
theorem V_of_C {w : World} {A : Option Addr} {c : Nat} {l : List Int} (h : Kd.C (Kd.int .i64) w A l.length l) (hc : l.length ≤ c) : Kd.V (Kd.int .i64) 3 w w.heap.size (fun k => k < w.heap.size) (.slice A l.length c) l := ⟨A, c, rfl, hc, Kd.C_F (Kd.heap_int .i64) h⟩
set_option maxHeartbeats 4000000 in
set_option maxRecDepth 100000 in
theorem once1_calls (k : Nat) (Ap : Option Addr) (cp : Nat) (p : List Int) (A1 : Option Addr) (c1 : Nat) (x : List Int) (A2 : Option Addr) (c2 : Nat) (y : List Int) (B1 B2 : Nat) (n : Int) (w : World)
  (hp : Kd.C (Kd.int .i64) w Ap p.length p) (hcp : p.length ≤ cp) (hx : Kd.C (Kd.int .i64) w A1 x.length x) (hcx : x.length ≤ c1) (hy : Kd.C (Kd.int .i64) w A2 y.length y) (hcy : y.length ≤ c2) (hG : GL w)
  (hb1 : w.cell? ⟨B1, 0, none⟩ = some (.slice Ap p.length cp)) (h : monzo_Compare.f k p x y = some (n, 0)) :
  Calls Tryz.prog 112 #[.slice A1 x.length c1, .slice A2 y.length c2, .pointer (some ⟨B1, 0, none⟩), .pointer (some ⟨B2, 0, none⟩)] w fun e w' => e = .returned (.int .i64 n) ∧ Below w.heap.size w w' := by
 have HC := AS (monzo_Compare.calls k Ap cp p _ A1 c1 x _ A2 c2 y n 0 w hp hcp (V_of_C hx hcx) (V_of_C hy hcy) hG h); clear hp hx hy hG h; go_enter Tryz.func112, Tryz.ntmps112; go_wp2_with (go_at_call 17; refine (HC.out).mono ?_; rintro e w1 ⟨rfl, hb⟩; have HB := AS hb; clear hb); go_ret; exact ⟨rfl, HB.out⟩
def txt (x : List Int) : ByteArray := ⟨#[91]⟩ ++ textL x ++ ⟨#[62]⟩
def TextOk (x : List Int) : Prop := x.length ≤ 64 ∧ x.all fitsB = true ∧ (Lib.join ((x.map itoaB).map (·.data.toList)) (⟨#[32]⟩ : ByteArray).data.toList).length ≤ 100000
theorem row_Text_txt {x : List Int} (h : TextOk x) : row_Text.f x true = some (txt x, 0) := by
 unfold row_Text.f; rw [if_pos ⟨rfl, h⟩]; rfl
theorem txt_size {x : List Int} (h : TextOk x) : (txt x).size ≤ 100002 := by
 unfold txt; rw [ByteArray.size_append, ByteArray.size_append, textL_eq]; have := h.2.2
 show 1 + _ + 1 ≤ _
 have h2 : (⟨(Lib.join ((x.map itoaB).map (·.data.toList)) (⟨#[32]⟩ : ByteArray).data.toList).toArray⟩ : ByteArray).size = (Lib.join ((x.map itoaB).map (·.data.toList)) (⟨#[32]⟩ : ByteArray).data.toList).length := by
  show Array.size _ = _
  simp
 omega
def ddStep (acc : List (List Int)) (x : List Int) : List (List Int) := if acc.any (fun y => decide (txt y = txt x)) then acc else acc ++ [x]
def dd (l : List (List Int)) : List (List Int) := l.foldl ddStep []
theorem dd_take (l : List (List Int)) (k : Nat) (h : k < l.length) : dd (l.take (k + 1)) = ddStep (dd (l.take k)) (l.getD k []) := by
 unfold dd; rw [List.take_succ_eq_append_getElem h, List.foldl_append, List.getD_eq_getElem?_getD, List.getElem?_eq_getElem h]; rfl
theorem dd_len (l : List (List Int)) : ∀ k, k ≤ l.length → (dd (l.take k)).length ≤ k
 | 0, _ => by simp [dd]
 | k + 1, h => by
  have := dd_len l k (by omega); rw [dd_take l k (by omega)]; unfold ddStep
  split
  ·omega
  ·simp; omega
theorem keyed9 : Maps.Keyed Tryz.prog 9 := Maps.string_keyed Tryz.underlying9
theorem zero4 (w : World) : (zeroValue 4).run Tryz.prog w = .ok (.bool false) w := by kernel_rfl
theorem plainElem_bool_inv {P : Program} {e : TypeId} (he : P.underlying e = some .bool) {v : Value} {z : DataW Unit × List MemPlace} (h : plainElem P e v = some z) : ∃ b, v = .bool b ∧ z = (.lit (.bool b), []) := by
 unfold plainElem at h; rw [he] at h
 cases v <;> simp at h
 subst h; exact ⟨_, rfl, rfl⟩
structure Met (b n : Nat) (acc : List (List Int)) (W : World) : Prop where
 mk :: (out : ∃ D : DataW Unit, W.ownsMap Tryz.prog 9 (plainElem Tryz.prog 4) b n D ∧ ∀ s : ByteArray, D.atKey (.string s.data.toList) (.lit (.bool false)) = .lit (.bool (acc.any fun y => decide (txt y = s))))
theorem Met.lookup {b n : Nat} {acc : List (List Int)} {W : World} (h : Met b n acc W) (s : ByteArray) (hs : s.size ≤ 100002) : (Instr.lookup 146 (.map (some b)) (.string s) false).run Tryz.prog W = .ok (.bool (acc.any fun y => decide (txt y = s))) W := by
 obtain ⟨D, ho, hD⟩ := h.out; obtain ⟨v, ps, hrun, hv⟩ := ho.lookup keyed9 Tryz.underlying146 (zero4 W) (plainElem_bool Tryz.underlying4 false) (key := .string s) (Go.WideMaps.keyOf_string_mk Tryz.underlying9 (by unfold maxLen; omega)); obtain ⟨b', rfl, hz⟩ := plainElem_bool_inv Tryz.underlying4 hv; rw [hD] at hz; simp only [Prod.mk.injEq, DataW.lit.injEq, Lit.bool.injEq] at hz; rw [hrun, hz.1]
theorem Met.update {b n : Nat} {acc : List (List Int)} {W : World} (h : Met b n acc W) (x : List Int) (hx : TextOk x) (hn : n ≤ 1000000) : ∃ w', (Instr.mapUpdate 146 (.map (some b)) (.string (txt x)) (.bool true)).run Tryz.prog W = .ok () w' ∧ Met b (n + 1) (acc ++ [x]) w' ∧ W.grownBy w' (some b) := by
 obtain ⟨D, ho, hD⟩ := h.out; have hs := txt_size hx; have hk := Go.WideMaps.keyOf_string_mk Tryz.underlying9 (s := txt x) (by unfold maxLen; omega); obtain ⟨w', hrun, ho', hg⟩ := ho.update keyed9 Tryz.underlying146 (by unfold maxLen; omega) hk (plainElem_bool Tryz.underlying4 true); refine ⟨w', hrun, ⟨⟨_, ho', fun s => ?_⟩⟩, hg⟩
 by_cases e : s = txt x
 ·subst e; rw [Maps.atKey_put_same ho.isMap (by simp [WideAt.IsKeyLit])]; rw [List.any_append]; simp
 ·rw [Maps.atKey_put_other (fun e2 => e (ByteArray.ext (Array.toList_inj.1 (Lit.string.inj e2)))), hD]; rw [List.any_append]; simp [Ne.symm e]
theorem Met.kept {b n : Nat} {acc : List (List Int)} {W W' : World} {row : Option Nat} (h : Met b n acc W) (hg : W.grownBy W' row) (hne : some b ≠ row) : Met b n acc W' := by
 obtain ⟨D, ho, hD⟩ := h.out; exact ⟨⟨D, ho.kept hg hne, hD⟩⟩
theorem Met.below {b n : Nat} {acc : List (List Int)} {W W' : World} (h : Met b n acc W) (hb : Below W.heap.size W W') : Met b n acc W' := h.kept (grown_of_below hb none) (by simp)
theorem Met.lt {b n : Nat} {acc : List (List Int)} {W : World} (h : Met b n acc W) : b < W.heap.size := by
 obtain ⟨D, ho, hD⟩ := h.out; exact ho.lt
theorem Met.not_cells {b n : Nat} {acc : List (List Int)} {W : World} (h : Met b n acc W) : ∃ es c, W.heap[b]? = some (.map es c) := by
 obtain ⟨D, ⟨es, c, hb, _⟩, hD⟩ := h.out; exact ⟨es, c, hb⟩
theorem Met.made (W : World) : Met W.heap.size 0 [] (W.alloc (.map #[] 0)) := ⟨⟨.map [], World.ownsMap_made W Tryz.prog 9 (plainElem Tryz.prog 4), fun s => by simp [DataW.atKey]⟩⟩
structure OnceSt (w : World) (Ap : Option Addr) (cp : Nat) (p : List Int) (n : Nat) (acc : List (List Int)) (v : Value) (W : World) : Prop where
 rows : RowsOf w.heap.size W v acc
 met : Met (w.heap.size + 1) n acc W
 box : Boxed W w.heap.size 25 (.slice Ap p.length cp)
 below : Below w.heap.size w W
theorem OnceSt.step {w W W' : World} {Ap : Option Addr} {cp : Nat} {p : List Int} {n : Nat} {acc : List (List Int)} {v : Value} (h : OnceSt w Ap cp p n acc v W) (hb : Below W.heap.size W W') : OnceSt w Ap cp p n acc v W' :=
 ⟨h.rows.below hb, h.met.below hb, h.box.below hb h.box.lt, bst h.below hb⟩
end Go.Proofs.YtkgkihichdcpmaaGreatDoor.H
namespace Go.Proofs.YtkgkihichdcpmaaGreatDoor.H
open Go.RowKit Go.Shelf Go.Proofs.YtkgkihichdcpmaaGreatDoorW.PrintWords Go.Proofs.YtkgkihichdcpmaaGreatDoorW.PrintLast Go.Proofs.YtkgkihichdcpmaaGreatDoorW.PrintMore
attribute [local go_sem] max2_int min2_int max_two min_two max_three min_three max_four min_four
set_option linter.unusedVariables false
set_option linter.unusedSimpArgs false
structure OnceOk (p : List Int) (l s : List (List Int)) : Prop where
 len : l.length ≤ 1000
 text : ∀ x ∈ l, TextOk x
 perm : (dd l).Perm s
 nodup : s.Nodup
 cmp : ∀ i j : Fin s.length, ∃ k, monzo_Compare.f k p (s.getD i.val []) (s.getD j.val []) = some (if i.val < j.val then -1 else if j.val < i.val then 1 else 0, 0)
theorem sorted_reads {w W w' : World} {g k : Nat} {s : List (List Int)} {enc : Fin (k + 1) → Value} {d : List (Fin (k + 1))} (hk : s.length = k + 1) (hg : w.heap.size ≤ g) (hgt : ∃ cells, W.heap[g]? = some (.cells cells 28 (0, 0)))
  (hr : ∀ i : Fin (k + 1), RA w.heap.size W (s.getD i.val []) [enc i]) (hH : Go.Sort.Holds enc W g 0 d.toArray) (hd : d.length = k + 1) (hw : ∃ m os, w' = sortWorld enc W g 0 m (List.finRange (k + 1)).toArray os) (hm : s.length ≤ 9223372036854775807) :
  Kd.C (Kd.slice 3 (Kd.int .i64)) w' (some ⟨g, 0, none⟩) s.length s := by
 obtain ⟨m, os, rfl⟩ := hw; obtain ⟨cells, hcell⟩ := hgt; have hgl : g < W.heap.size := (Array.getElem?_eq_some_iff.1 hcell).1; refine ⟨rfl, hm, fun _ => ⟨_, rfl, fun j x hj => ?_⟩⟩; have hjl : j < s.length := (List.getElem?_eq_some_iff.1 hj).1
 have hjk : j < k + 1 := by omega
 obtain ⟨A, c, e, hl, hC, ht⟩ := (hr ⟨j, hjk⟩).grown (So.sortWorld_grownBy enc W g 0 m (List.finRange (k + 1)).toArray os) (fun g' hg' => by
  injection hg' with hg'; subst hg'
  exact ⟨hg, fun c e => by rw [hcell] at e; injection e with e; injection e with _ e _; exact absurd e (by decide)⟩)
 have hx : s.getD j [] = x := by rw [List.getD_eq_getElem?_getD, hj]; rfl
 simp only [hx] at e hl hC; injection e with e; refine ⟨[.slice A x.length c], rfl, ⟨A, c, rfl, hl, hC⟩, fun i u hu => ?_⟩
 have hi : i = 0 := by
  have := (List.getElem?_eq_some_iff.1 hu).1
  simpa using this
 subst hi; simp at hu; subst hu; rw [show (⟨g, 0, none⟩ : Addr).add (j * Kd.sz (Kd.slice 3 (Kd.int .i64)) + 0) = ⟨g, j, none⟩ by rw [add_plain]; congr 1; exact Nat.mul_one j]; have h2 := (Go.Sort.holds_grow enc _ os g 0 (List.finRange (k + 1)).toArray (by rw [Go.Sort.size_putRow]; exact hgl) (Go.Sort.holds_putRow enc (Go.Sort.ahead W m) g 0 d.toArray (List.finRange (k + 1)).toArray hH (by simp [hd])) j (by simpa using hjk)).1; rw [Nat.zero_add] at h2; rw [show sortWorld enc W g 0 m (List.finRange (k + 1)).toArray os = Go.Sort.grow (Go.Sort.putRow enc (Go.Sort.ahead W m) g 0 (List.finRange (k + 1)).toArray) os from rfl, h2, ← e]
 congr 1
 congr 1
 rw [getElem!_pos _ _ (by simpa using hjk)]; simp
theorem OnceSt.put {w W : World} {Ap : Option Addr} {cp : Nat} {p : List Int} {n : Nat} {acc : List (List Int)} {v : Value} (h : OnceSt w Ap cp p n acc v W) (x : List Int) (hx : TextOk x) (hn : n ≤ 1000) :
  ∃ w4, (Instr.mapUpdate 146 (.map (some (w.heap.size + 1))) (.string (txt x)) (.bool true)).run Tryz.prog W = .ok () w4 ∧ RowsOf w.heap.size w4 v acc ∧ Below w.heap.size w w4 ∧ (∀ cs, RA w.heap.size W x cs → RA w.heap.size w4 x cs) ∧
   ∀ v1 w5, RowsOf w.heap.size w5 v1 (acc ++ [x]) → Below w.heap.size w w5 → w4.grownBy w5 v.ownBlock → OnceSt w Ap cp p (n + 1) (acc ++ [x]) v1 w5 := by
 obtain ⟨w4, hrun, hm4, hg4⟩ := h.met.update x hx (by omega); obtain ⟨es, cl, hmb⟩ := h.met.not_cells
 have hfree : ∀ g, some (w.heap.size + 1) = some g → w.heap.size ≤ g ∧ ∀ cells, W.heap[g]? ≠ some (.cells cells 3 (0, 0)) := fun g hg => by
  injection hg with hg; subst hg; exact ⟨by omega, fun c e => by rw [hmb] at e; cases e⟩
 have hne : v.ownBlock ≠ some (w.heap.size + 1) := fun e => by
  obtain ⟨_, _, cells, hb⟩ := h.rows.block _ e
  rw [hmb] at hb; cases hb
 have hbx : some w.heap.size ≠ v.ownBlock := fun e => by
  obtain ⟨_, _, cells, hb⟩ := h.rows.block _ e.symm; have h2 : W.heap[w.heap.size]? = _ := h.box; rw [h2] at hb; injection hb with hb; injection hb with _ hb _; exact absurd hb (by decide)
 refine ⟨w4, hrun, h.rows.grown hg4 hfree (.inr hne), h.below.grown hg4 h.below.size (fun k hk => by injection hk with hk; omega), fun cs hc => hc.grown hg4 hfree, fun v1 w5 h1 h2 h3 => ⟨h1, hm4.kept h3 (Ne.symm hne), (h.box.kept hg4 (by simp)).kept h3 hbx, h2⟩⟩
set_option maxHeartbeats 4000000 in
theorem isort_none (p : Option Addr) (cap : Nat) (fv : Value) (w : World) :
  Calls Tryz.prog 167 #[.slice p 0 cap, .int .i64 0, .int .i64 0, fv] w fun e w' => e = .returned (.tuple #[]) ∧ w' = w := by
 go_enter Tryz.func167, Tryz.ntmps167; go_wp2; refine wp_loop_rounds 1 ?_; rw [rounds_succ]; go_wp2
 go_end0
 exact ⟨rfl, rfl⟩
set_option maxHeartbeats 4000000 in
theorem pdq_none (p : Option Addr) (cap : Nat) (lim : Int) (fv : Value) (w : World) :
  Calls Tryz.prog 136 #[.slice p 0 cap, .int .i64 0, .int .i64 0, .int .i64 lim, fv] w fun e w' => e = .returned (.tuple #[]) ∧ w' = w := by
 have hi := fun W => isort_none p cap fv W
 go_enter Tryz.func136, Tryz.ntmps136; go_wp2; refine wp_loop_rounds 1 ?_; rw [rounds_succ]; go_wp2_with (go_at_call 167; refine (hi _).mono ?_; rintro e w' ⟨rfl, rfl⟩)
 (try simp only [Exit.inBlock, Exit.then]); refine bodyPost_ret (results_none rfl _ _ _) rfl ?_
 exact ⟨rfl, rfl⟩
set_option maxHeartbeats 4000000 in
theorem sort_none (p : Option Addr) (cap : Nat) (fv : Value) (w : World) :
  Calls Tryz.prog 111 #[.slice p 0 cap, fv] w fun e w' => e = .returned (.tuple #[]) ∧ w' = w := by
 have hp := fun lim W => pdq_none p cap lim fv W
 have hl : ∀ W, Calls Tryz.prog 137 #[.int .u64 0] W fun e w' => e = .returned (.int .i64 (Lib.bitLen 0 : Nat)) ∧ w' = W := fun W => Tryz.bits_Len 0 W (by omega) (by omega)
 go_enter Tryz.func111, Tryz.ntmps111; go_wp2_with (first | (go_at_call 137; refine (hl _).mono ?_; rintro e w' ⟨rfl, rfl⟩) | (go_at_call 136; refine (hp _ _).mono ?_; rintro e w' ⟨rfl, rfl⟩))
 go_end0
 exact ⟨rfl, rfl⟩
theorem once_sort (Ap : Option Addr) (cp : Nat) (p : List Int) (l s : List (List Int)) (w W : World) (n : Nat) (v : Value) (B2 : Nat)
  (hp : Kd.C (Kd.int .i64) w Ap p.length p) (hcp : p.length ≤ cp) (hG : GL w) (ok : OnceOk p l s) (hS : OnceSt w Ap cp p n (dd l) v W) (hB2 : Boxed W B2 34 (.int .i64 0)) :
  ∃ A c, v = .slice A s.length c ∧ s.length ≤ c ∧ Calls Tryz.prog 111 #[v, .func (.func 112) #[] #[.pointer (some ⟨w.heap.size, 0, none⟩), .pointer (some ⟨B2, 0, none⟩)]] W fun e w' =>
   e = .returned (.tuple #[]) ∧ Kd.C (Kd.slice 3 (Kd.int .i64)) w' A s.length s ∧ Below w.heap.size w w' ∧ w'.cell? ⟨B2, 0, none⟩ = some (.int .i64 0) := by
 have hlen : (dd l).length = s.length := ok.perm.length_eq
 have hsl : s.length ≤ 1000 := by
  have := dd_len l l.length (Nat.le_refl _); rw [List.take_length] at this; have := ok.len
  omega
 cases hsk : s.length with
 | zero =>
  obtain ⟨A, c, e, hc⟩ := OwnRow.slice_ hS.rows; rw [hlen, hsk] at e hc; refine ⟨A, c, e, hc, ?_⟩; rw [e]; refine (sort_none A c _ W).mono ?_; rintro e w' ⟨rfl, rfl⟩; obtain rfl : s = [] := List.eq_nil_of_length_eq_zero hsk; exact ⟨rfl, ⟨rfl, by omega, fun h => absurd h (by omega)⟩, hS.below, hB2.cell⟩
 | succ k =>
  obtain ⟨inner, ho, hreps⟩ := hS.rows; rw [hlen, hsk] at ho; obtain ⟨g, cap, e, hx1, hx2⟩ := ho.form (by omega)
  have hil : inner.length = (dd l).length := by rw [hreps.1, Nat.mul_one]
  obtain ⟨d, enc, hd, hperm, hin, hat⟩ := So.index_rows (dd l) s inner k hsk ok.perm ok.nodup hil
  have hob : v.ownBlock = some g := by rw [e]; rfl
  obtain ⟨hgb, hgl, cells, hgc⟩ := hS.rows.block g hob; have hfree := hS.rows.free g hob
  have hra : ∀ i : Fin (k + 1), RA w.heap.size W (s.getD i.val []) [enc i] := fun i => by
   obtain ⟨j, hj, e1, e2⟩ := hat i; have h3 := hreps.2 j _ (List.getElem?_eq_getElem hj); rw [e1, Nat.mul_one] at h3
   rwa [show (inner.drop j).take 1 = [enc i] by
    have h4 := List.getElem?_eq_some_iff.1 e2
    rw [List.drop_eq_getElem_cons h4.1, h4.2]; rfl] at h3
  have hle : k + 1 ≤ cap := by have := own_le (A := some ⟨g, 0, none⟩) (m := k + 1) (c := cap) (by rw [← e]; exact ho); omega
  refine ⟨some ⟨g, 0, none⟩, cap, e, hle, ?_⟩
  have hH : Go.Sort.Holds enc W g 0 d.toArray := fun j hj => by
   have hj' : j < d.length := by simpa using hj
   rw [Nat.zero_add]; refine ⟨?_, bfz hgc j⟩; rw [show (⟨g, j, none⟩ : Addr) = (⟨g, 0, none⟩ : Addr).add j from (add_plain g j).symm]; refine ho.cells (g := g) hob j _ ?_; rw [hin, List.getElem?_map, List.getElem?_eq_getElem hj', getElem!_pos d.toArray j hj]; simp
  have hB2g : B2 ≠ g := fun e2 => by
   have h2 : W.heap[B2]? = _ := hB2; rw [e2, hgc] at h2; injection h2 with h2; injection h2 with _ h2 _; exact absurd h2 (by decide)
  have hB1g : w.heap.size ≠ g := fun e2 => by
   have h2 : W.heap[w.heap.size]? = _ := hS.box; rw [e2, hgc] at h2; injection h2 with h2; injection h2 with _ h2 _; exact absurd h2 (by decide)
  have hbel : ∀ W', W.grownBy W' (some g) → Below w.heap.size w W' := fun W' hg' => hS.below.grown hg' hS.below.size (fun k hk => by injection hk with hk; omega)
  have hsort := So.sort_rows Tryz.laysSort k enc (fun i => by obtain ⟨A, c, e3, _⟩ := hra i; injection e3 with e3; rw [e3]; rfl) 112 #[.pointer (some ⟨w.heap.size, 0, none⟩), .pointer (some ⟨B2, 0, none⟩)] g cap d hd hperm W
   (enters_of Tryz.func112 (by kernel_rfl) rfl) (fun W' hg' i j => by
    obtain ⟨A1, c1, e1, hl1, hC1⟩ := RA.open_ ((hra i).grown hg' (fun g' hg'' => by injection hg'' with hg''; subst hg''; exact hfree)); obtain ⟨A2, c2, e2, hl2, hC2⟩ := RA.open_ ((hra j).grown hg' (fun g' hg'' => by injection hg'' with hg''; subst hg''; exact hfree)); have hb := hbel W' hg'; obtain ⟨q, hq⟩ := ok.cmp ⟨i.val, by omega⟩ ⟨j.val, by omega⟩; rw [e1, e2]
    exact once1_calls q Ap cp p A1 c1 _ A2 c2 _ w.heap.size B2 _ W' (Kd.C_below hp hb) hcp hC1 hl1 hC2 hl2 (hG.below hb) (hS.box.kept hg' (by simpa using hB1g)).cell hq) hH hgl (by omega)
  rw [e]; refine Calls.mono (show Calls Tryz.prog 111 _ W _ from hsort) ?_; rintro e4 w' ⟨rfl, hw⟩
  have hg' : W.grownBy w' (some g) := by
   obtain ⟨m, os, rfl⟩ := hw; exact So.sortWorld_grownBy ..
  refine ⟨rfl, ?_, hbel w' hg', (hB2.kept hg' (by simpa using hB2g)).cell⟩; have := sorted_reads hsk hgb ⟨cells, hgc⟩ hra hH hd hw (by omega); rw [hsk] at this; exact this
set_option maxHeartbeats 8000000 in
set_option maxRecDepth 100000 in
theorem once_calls (Ap : Option Addr) (cp : Nat) (p : List Int) (A : Option Addr) (c : Nat) (l s : List (List Int)) (w : World)
  (hp : Kd.C (Kd.int .i64) w Ap p.length p) (hcp : p.length ≤ cp) (hr : Kd.C (Kd.slice 3 (Kd.int .i64)) w A l.length l) (hc : l.length ≤ c) (hG : GL w) (ok : OnceOk p l s) :
  Calls Tryz.prog 84 #[.slice Ap p.length cp, .slice A l.length c] w fun e w' => ∃ B c', e = .returned (.tuple #[.slice B s.length c', .int .i64 0]) ∧ s.length ≤ c' ∧ Kd.C (Kd.slice 3 (Kd.int .i64)) w' B s.length s ∧ Below w.heap.size w w' := by
 have hmm := @run_makeMap Tryz.prog; have hlen := ok.len; have HP := AS hp; have HR := AS hr; have HGL := AS hG; have HOK := AS ok; clear hp hr hG ok; go_enter Tryz.func84, Tryz.ntmps84; go_wp2
 go_loopw [7, 16] (fun v i wr => ∃ k : Nat, i = .int .i64 k ∧ k ≤ l.length ∧ Aside0 (OnceSt w Ap cp p k (dd (l.take k)) v wr)) (fun _ i _ => l.length - (intOf i).toNat)
 case atStart =>
  refine ⟨0, rfl, Nat.zero_le _, ⟨RowsOf.nil _ _, ?_, (Boxed.new w 25 _).alloc _, ((Below.refl _ w).alloc (Nat.le_refl _) _).alloc (by simp) _⟩⟩; have := Met.made (w.alloc (.cells #[.slice Ap p.length cp] 25)); rw [World.size_alloc] at this; exact this
 case round =>
  obtain ⟨k, rfl, hk, HS⟩ := hrel
  by_cases hlt : k < l.length
  ·obtain ⟨ad, B, c', rfl, hcell0, hl', hC0⟩ := C_rows_at HR.out k hlt; have hcell := pcb HS.out.below hcell0; have hTx := HOK.out.text (l.getD k []) (by rw [List.getD_eq_getElem?_getD, List.getElem?_eq_getElem hlt]; exact List.getElem_mem _); have HD := AS (dd_take l k hlt); have hRA := RA.of_C hC0 hl'; generalize hx : l.getD k [] = x at *; have HRA := AS hRA; have HT := AS (row_Text.calls B c' x true (txt x) 0 wr (Kd.C_below hC0 HS.out.below) hl' (HGL.out.below HS.out.below) (row_Text_txt hTx)); have HTX := AS hTx; clear hcell0 hC0 hRA hTx
   obtain ⟨t, ht⟩ : ∃ t, t = txt x := ⟨_, rfl⟩
   rw [← ht] at HT
   obtain ⟨xn, hxn⟩ : ∃ xn, xn = x.length := ⟨_, rfl⟩
   cases hmem : (dd (l.take k)).any (fun y => decide (txt y = t)) with
   | true =>
    have HM := AS hmem; clear hmem hx; have HTE := AS ht; clear ht hxn; go_wp2_with (go_at_call 110; refine (HT.out).mono ?_; rintro e w3 ⟨rfl, hb⟩; have HS3 := AS (HS.out.step hb); have hrun := HS3.out.met.lookup t (by rw [HTE.out]; exact txt_size HTX.out); rw [HM.out] at hrun; clear hb); go_roundw
    case rel =>
     refine ⟨k + 1, by go_num, by omega, ⟨?_⟩⟩; rw [HD.out]; unfold ddStep; rw [if_pos (by rw [← HTE.out]; exact HM.out)]; exact ⟨HS3.out.rows, ⟨by obtain ⟨D, ho, hD⟩ := HS3.out.met.out; exact ⟨D, ho.mono (by omega), hD⟩⟩, HS3.out.box, HS3.out.below⟩
    case measure => simp [intOf]; omega
   | false =>
    have HM := AS hmem; clear hmem hx; have HTE := AS ht; clear ht hxn; have HDL := AS (dd_len l k hk); go_wp2_with (first | (go_at_call 110; refine (HT.out).mono ?_; rintro e w3 ⟨rfl, hb⟩; have HS3 := AS (HS.out.step hb); have hrun := HS3.out.met.lookup t (by rw [HTE.out]; exact txt_size HTX.out); rw [HM.out] at hrun; obtain ⟨w4, hrun4, hr4, hb4, hra4, hput⟩ := HS3.out.put x HTX.out (by omega); rw [← HTE.out] at hrun4; have HR4 := AS hr4; have HB4 := AS hb4; have HRA4 := AS (hra4 _ (HRA.out.below HS3.out.below)); have HPUT := AS hput; clear hb hr4 hb4 hra4 hput) | (at_builtin; refine RowsOf.append (w0 := w) w.heap.size rfl (.tmp 34) (.tmp 36) 27 rfl Tryz.underlying27 info28_own _ (dd (l.take k)) x _ rfl rfl HRA4.out HR4.out HB4.out HB4.out.size (by have := HDL.out; omega) ?_; intro v5 w5 h1 h2 h3 _; have HS5 := AS (HPUT.out v5 w5 h1 h2 h3); clear h1 h2 h3)); go_roundw
    case rel =>
     refine ⟨k + 1, by go_num, by omega, ⟨?_⟩⟩; rw [HD.out]; unfold ddStep; rw [if_neg (by rw [← HTE.out, HM.out]; simp)]; exact HS5.out
    case measure => simp [intOf]; omega
  ·obtain rfl : k = l.length := by omega
   rw [List.take_length] at HS
   have HSo : ∀ W B2, OnceSt w Ap cp p l.length (dd l) u7 W → Boxed W B2 34 (.int .i64 0) → _ := fun W B2 h1 h2 => once_sort Ap cp p l s w W l.length u7 B2 HP.out hcp HGL.out HOK.out h1 h2
   have HSO := AS HSo; clear HSo; obtain ⟨A', c', rfl, hcc, -⟩ := HSO.out _ _ (HS.out.step (((Below.refl _ wr).alloc (Nat.le_refl _) (.cells #[.int .i64 0] 34)))) (Boxed.new wr 34 _); go_wp2_with (go_at_call 111; obtain ⟨A2, c2, e2, hc2, hcall⟩ := HSO.out _ _ (HS.out.step (((Below.refl _ wr).alloc (Nat.le_refl _) (.cells #[.int .i64 0] 34)))) (Boxed.new wr 34 _); injection e2 with e2 _ e3; subst e2; refine hcall.mono ?_; rintro e w7 ⟨rfl, hC7, hB7, hbox⟩; have HC7 := AS hC7; have HB7 := AS hB7; clear hC7 hB7 hcall); go_ret2; exact ⟨_, _, rfl, hc2, HC7.out, HB7.out⟩
end Go.Proofs.YtkgkihichdcpmaaGreatDoor.H
end
section
namespace Go.Proofs.YtkgkihichdcpmaaGreatDoor.H
open Go.RowKit Go.Shelf Go.Proofs.YtkgkihichdcpmaaGreatDoorW.PrintWords Go.Proofs.YtkgkihichdcpmaaGreatDoorW.PrintLast Go.Proofs.YtkgkihichdcpmaaGreatDoorW.PrintMore
attribute [local go_sem] max2_int min2_int max_two min_two max_three min_three max_four min_four
set_option linter.unusedVariables false
set_option linter.unusedSimpArgs false
def sub (x y : List Int) : List Int := List.zipWith (· - ·) x y
def diffs (l : List (List Int)) : List (List Int) := l.flatMap fun x => l.map fun y => sub x y
def diffsTo (l : List (List Int)) (k j : Nat) : List (List Int) := (l.take k).flatMap (fun x => l.map fun y => sub x y) ++ (l.take j).map fun y => sub (l.getD k []) y
theorem diffsTo_step (l : List (List Int)) (k j : Nat) (h : j < l.length) : diffsTo l k j ++ [sub (l.getD k []) (l.getD j [])] = diffsTo l k (j + 1) := by
 unfold diffsTo; rw [List.take_succ_eq_append_getElem h, List.map_append, List.append_assoc, List.getD_eq_getElem?_getD (l := l) (i := j), List.getElem?_eq_getElem h]; rfl
theorem diffsTo_next (l : List (List Int)) (k : Nat) (h : k < l.length) : diffsTo l k l.length = diffsTo l (k + 1) 0 := by
 unfold diffsTo; rw [List.take_succ_eq_append_getElem h, List.flatMap_append, List.take_length, List.take_zero, List.map_nil, List.append_nil, List.getD_eq_getElem?_getD (l := l) (i := k), List.getElem?_eq_getElem h]; simp
theorem diffsTo_end (l : List (List Int)) : diffsTo l l.length 0 = diffs l := by
 unfold diffsTo diffs; simp
theorem diffsTo_len (l : List (List Int)) (k j : Nat) (hl : l.length ≤ 20) : (diffsTo l k j).length ≤ 420 := by
 unfold diffsTo; rw [List.length_append, List.length_map, List.length_take]
 have : ∀ m : List (List Int), (m.flatMap (fun x => l.map fun y => sub x y)).length = m.length * l.length := fun m => by
  induction m with
  | nil => simp
  | cons a m ih => rw [List.flatMap_cons, List.length_append, ih, List.length_map, List.length_cons, Nat.add_mul, Nat.one_mul, Nat.add_comm]
 rw [this, List.length_take]
 have h1 : min k l.length ≤ 20 := by omega
 have h2 : min k l.length * l.length ≤ 20 * 20 := Nat.mul_le_mul h1 hl
 omega
structure Btw (w : World) (rows : List (List Int)) (v : Value) (W : World) : Prop where
 rows : RowsOf w.heap.size W v rows
 below : Below w.heap.size w W
theorem Btw.step {w W W' : World} {rows : List (List Int)} {v : Value} (h : Btw w rows v W) (hb : Below W.heap.size W W') : Btw w rows v W' := ⟨h.rows.below hb, bst h.below hb⟩
set_option maxHeartbeats 8000000 in
set_option maxRecDepth 100000 in
theorem between_calls (Ap : Option Addr) (cp : Nat) (p : List Int) (A : Option Addr) (c : Nat) (l s : List (List Int)) (w : World)
  (hp : Kd.C (Kd.int .i64) w Ap p.length p) (hcp : p.length ≤ cp) (hr : Kd.C (Kd.slice 3 (Kd.int .i64)) w A l.length l) (hc : l.length ≤ c) (hG : GL w) (hl : l.length ≤ 20)
  (hsub : ∀ x ∈ l, ∀ y ∈ l, row_Sub.f x y = some (sub x y, 0)) (ok : OnceOk p (diffs l) s) :
  Calls Tryz.prog 52 #[.slice Ap p.length cp, .slice A l.length c] w fun e w' => ∃ B c', e = .returned (.tuple #[.slice B s.length c', .int .i64 0]) ∧ s.length ≤ c' ∧ Kd.C (Kd.slice 3 (Kd.int .i64)) w' B s.length s ∧ Below w.heap.size w w' := by
 have HP := AS hp; have HR := AS hr; have HGL := AS hG; have HOK := AS ok; have HSUB := AS hsub; clear hp hr hG ok hsub; go_enter Tryz.func52, Tryz.ntmps52; go_wp2
 go_loopw [6, 15] (fun v i wr => ∃ k : Nat, i = .int .i64 k ∧ k ≤ l.length ∧ Aside0 (Btw w (diffsTo l k 0) v wr)) (fun _ i _ => l.length - (intOf i).toNat)
 case atStart => exact ⟨0, rfl, Nat.zero_le _, ⟨RowsOf.nil _ _, Below.refl _ _⟩⟩
 case round =>
  obtain ⟨k, rfl, hk, HS⟩ := hrel
  by_cases hlt : k < l.length
  ·obtain ⟨ad, B, c', rfl, hcell0, hl', hC0⟩ := C_rows_at HR.out k hlt; have hcell := pcb HS.out.below hcell0; have hm := HSUB.out (l.getD k []) (by rw [List.getD_eq_getElem?_getD, List.getElem?_eq_getElem hlt]; exact List.getElem_mem _); have HN := AS (diffsTo_next l k hlt); have HST := AS (diffsTo_step l k); have HSU := AS hm; have HC0 := AS hC0; generalize hx : l.getD k [] = x at *; clear hcell0 hC0 hm hx
   obtain ⟨xn, hxn⟩ : ∃ xn, xn = x.length := ⟨_, rfl⟩
   go_wp2
   go_loopw [6, 21] (fun v i wj => ∃ j : Nat, i = .int .i64 j ∧ j ≤ l.length ∧ Aside0 (Btw w (diffsTo l k j) v wj)) (fun _ i _ => l.length - (intOf i).toNat)
   case atStart => exact ⟨0, rfl, Nat.zero_le _, HS⟩
   case round =>
    obtain ⟨j, rfl, hj, HS2⟩ := hrel
    by_cases hlt2 : j < l.length
    ·obtain ⟨ad2, B2, c2, e2, hcell20, hl2, hC2⟩ := C_rows_at HR.out j hlt2; injection e2 with e2; subst e2; have hcell2 := pcb HS2.out.below hcell20; have HCa := AS (row_Sub.calls B c' x B2 c2 (l.getD j []) _ 0 wr (Kd.C_below HC0.out HS2.out.below) hl' (Kd.C_below hC2 HS2.out.below) hl2 (HGL.out.below HS2.out.below) (HSU.out (l.getD j []) (by rw [List.getD_eq_getElem?_getD, List.getElem?_eq_getElem hlt2]; exact List.getElem_mem _))); have HX := AS (HST.out j hlt2); generalize hy : l.getD j [] = y at *; clear hcell20 hC2 hy
     obtain ⟨sn, hsn⟩ : ∃ sn, sn = (sub x y).length := ⟨_, rfl⟩
     clear hsn; have HLN := AS (diffsTo_len l k j hl); go_wp2_with (first | (go_at_call 86; refine (HCa.out).mono ?_; rintro e w3 ⟨z, rfl, hR3, hb3⟩; have HRA3 := AS (RA.of_R (base := w.heap.size) hR3); obtain ⟨A3, c3, rfl, hl3, hC3⟩ := Kd.R_reads hR3; have HS3 := AS (HS2.out.step hb3); clear hR3 hC3 hb3) | (at_builtin; refine RowsOf.append (w0 := w) w.heap.size rfl (.tmp 34) (.tmp 36) 27 rfl Tryz.underlying27 info28_own _ (diffsTo l k j) (sub x y) _ rfl rfl HRA3.out HS3.out.rows HS3.out.below HS3.out.below.size (by have := HLN.out; omega) ?_; intro v5 w5 h1 h2 h3 _; have HS5 := AS (Btw.mk h1 h2); clear h1 h2 h3)); go_roundw
     case rel => exact ⟨j + 1, by go_num, by omega, ⟨by rw [← HX.out]; exact HS5.out⟩⟩
     case measure => simp [intOf]; omega
    ·obtain rfl : j = l.length := by omega
     go_wp2; go_roundw
     case rel => exact ⟨k + 1, by go_num, by omega, ⟨by rw [← HN.out]; exact HS2.out⟩⟩
     case measure => simp [intOf]; omega
  ·obtain rfl : k = l.length := by omega
   rw [diffsTo_end] at HS; obtain ⟨A', c', rfl, hcc, hC'⟩ := HS.out.rows.reads; have HO := AS (once_calls Ap cp p A' c' (diffs l) s wr (Kd.C_below HP.out HS.out.below) hcp hC' hcc (HGL.out.below HS.out.below) HOK.out); clear hC'
   obtain ⟨dl, hdl⟩ : ∃ dl, dl = (diffs l).length := ⟨_, rfl⟩
   go_wp2_with (go_at_call 84; refine (HO.out).mono ?_; rintro e w7 ⟨B7, c7, rfl, hc7, hC7, hB7⟩; have HC7 := AS hC7; have HB7 := AS (bst HS.out.below hB7); clear hC7 hB7); go_ret2; exact ⟨_, _, rfl, hc7, HC7.out, HB7.out⟩
set_option maxHeartbeats 8000000 in
set_option maxRecDepth 100000 in
theorem kept_calls (g : Nat) (lb : Array Value) (A : Option Addr) (c : Nat) (l : List (List Int)) (q : List Int → Bool) (w : World) (hr : Kd.C (Kd.slice 3 (Kd.int .i64)) w A l.length l) (hc : l.length ≤ c) (hl : l.length ≤ 1000)
  (eg : ∀ args w, (callFunc g args).run Tryz.prog w = .ok (.enter g args) w)
  (hq : ∀ x ∈ l, ∀ W B b, Below w.heap.size w W → Kd.C (Kd.int .i64) W B x.length x → x.length ≤ b → Calls Tryz.prog g (#[.slice B x.length b] ++ lb) W fun e w' => e = .returned (.tuple #[.bool (q x), .int .i64 0]) ∧ Below W.heap.size W w') :
  Calls Tryz.prog 53 #[.slice A l.length c, .func (.func g) #[] lb] w fun e w' => ∃ B c', e = .returned (.tuple #[.slice B (l.filter q).length c', .int .i64 0]) ∧ (l.filter q).length ≤ c' ∧ Kd.C (Kd.slice 3 (Kd.int .i64)) w' B (l.filter q).length (l.filter q) ∧ Below w.heap.size w w' := by
 have HR := AS hr; have HQ := AS hq; clear hr hq; go_enter Tryz.func53, Tryz.ntmps53; go_wp2
 go_loopw [6, 13] (fun v i wr => ∃ k : Nat, i = .int .i64 k ∧ k ≤ l.length ∧ Aside0 (Btw w ((l.take k).filter q) v wr)) (fun _ i _ => l.length - (intOf i).toNat)
 case atStart => exact ⟨0, rfl, Nat.zero_le _, ⟨RowsOf.nil _ _, Below.refl _ _⟩⟩
 case round =>
  obtain ⟨k, rfl, hk, HS⟩ := hrel
  by_cases hlt : k < l.length
  ·obtain ⟨ad, B, c', rfl, hcell0, hl', hC0⟩ := C_rows_at HR.out k hlt; have hcell := pcb HS.out.below hcell0; have HRA := AS ((RA.of_C hC0 hl').below HS.out.below)
   have HT : Aside0 ((l.take (k + 1)).filter q = (l.take k).filter q ++ if q (l.getD k []) then [l.getD k []] else []) := ⟨by
    rw [List.take_succ_eq_append_getElem hlt, List.filter_append, List.getD_eq_getElem?_getD, List.getElem?_eq_getElem hlt]
    simp [List.filter_cons]⟩
   have HLN : Aside0 (((l.take k).filter q).length ≤ 1000) := ⟨by have := List.length_filter_le q (l.take k); rw [List.length_take] at this; omega⟩; have HCa := AS (HQ.out (l.getD k []) (by rw [List.getD_eq_getElem?_getD, List.getElem?_eq_getElem hlt]; exact List.getElem_mem _) wr B c' HS.out.below (Kd.C_below hC0 HS.out.below) hl'); generalize hx : l.getD k [] = x at *; clear hcell0 hC0 hx
   obtain ⟨xn, hxn⟩ : ∃ xn, xn = x.length := ⟨_, rfl⟩
   cases hqx : q x with
   | true =>
    rw [hqx] at HCa HT; clear hqx; go_wp2_with fail; refine (HCa.out).mono ?_; rintro e w3 ⟨rfl, hb3⟩; have HRA3 := AS (HRA.out.below hb3); have HS3 := AS (HS.out.step hb3); clear hb3; go_wp2_with (at_builtin; refine RowsOf.append (w0 := w) w.heap.size rfl (.tmp 27) (.tmp 29) 27 rfl Tryz.underlying27 info28_own _ ((l.take k).filter q) x _ rfl rfl HRA3.out HS3.out.rows HS3.out.below HS3.out.below.size (by have := HLN.out; omega) ?_; intro v5 w5 h1 h2 h3 _; have HS5 := AS (Btw.mk h1 h2); clear h1 h2 h3); go_roundw
    case rel => exact ⟨k + 1, by go_num, by omega, ⟨by rw [HT.out]; exact HS5.out⟩⟩
    case measure => simp [intOf]; omega
   | false =>
    rw [hqx] at HCa HT; clear hqx; go_wp2_with fail; refine (HCa.out).mono ?_; rintro e w3 ⟨rfl, hb3⟩; have HS3 := AS (HS.out.step hb3); clear hb3; go_wp2; go_roundw
    case rel => exact ⟨k + 1, by go_num, by omega, ⟨by rw [HT.out]; simpa using HS3.out⟩⟩
    case measure => simp [intOf]; omega
  ·obtain rfl : k = l.length := by omega
   rw [List.take_length] at HS; obtain ⟨A', c', rfl, hcc, hC'⟩ := HS.out.rows.reads; have HC' := AS hC'; clear hC'; go_wp2; go_ret2; exact ⟨_, _, rfl, hcc, HC'.out, HS.out.below⟩
end Go.Proofs.YtkgkihichdcpmaaGreatDoor.H
end
section
namespace Go.Proofs.YtkgkihichdcpmaaGreatDoor.H
open Go.RowKit Go.Shelf Go.Proofs.YtkgkihichdcpmaaGreatDoorW.PrintWords Go.Proofs.YtkgkihichdcpmaaGreatDoorW.PrintLast Go.Proofs.YtkgkihichdcpmaaGreatDoorW.PrintMore
attribute [local go_sem] max2_int min2_int max_two min_two max_three min_three max_four min_four
set_option linter.unusedVariables false
set_option linter.unusedSimpArgs false
def Chooses (g : Nat) (Ap : Option Addr) (cp : Nat) (p : List Int) (x y : List Int) (b : Bool) (w : World) : Prop :=
 ∀ W A1 c1 A2 c2, Below w.heap.size w W → Kd.C (Kd.int .i64) W A1 x.length x → x.length ≤ c1 → Kd.C (Kd.int .i64) W A2 y.length y → y.length ≤ c2 →
  Calls Tryz.prog g #[.slice Ap p.length cp, .slice A1 x.length c1, .slice A2 y.length c2] W fun e w' => ∃ X, Below W.heap.size W X ∧ w' = X.alloc (.cells #[if b then .slice A2 y.length c2 else .slice A1 x.length c1] 28) ∧ e = .returned (.tuple #[.slice (some ⟨X.heap.size, 0, none⟩) 1 1, .int .i64 0])
set_option maxHeartbeats 4000000 in
theorem whole_chooses (Ap : Option Addr) (cp : Nat) (p x y : List Int) (w : World) : Chooses 47 Ap cp p x y false w := by
 intro W A1 c1 A2 c2 hb h1 h2 h3 h4
 obtain ⟨xn, hxn⟩ : ∃ xn, xn = x.length := ⟨_, rfl⟩
 clear h1 h3 hb; go_enter Tryz.func47, Tryz.ntmps47; go_wp2; go_ret2; exact ⟨W, Below.refl _ _, rfl, rfl⟩
set_option maxHeartbeats 4000000 in
theorem lesser_chooses (Ap : Option Addr) (cp : Nat) (p x y : List Int) (w : World) (k : Nat) (n : Int) (hp : Kd.C (Kd.int .i64) w Ap p.length p) (hcp : p.length ≤ cp) (hG : GL w) (h : monzo_Compare.f k p x y = some (n, 0)) : Chooses 48 Ap cp p x y (decide (0 < n)) w := by
 intro W A1 c1 A2 c2 hb h1 h2 h3 h4; have HC := AS (monzo_Compare.calls k Ap cp p _ A1 c1 x _ A2 c2 y n 0 W (Kd.C_below hp hb) hcp (V_of_C h1 h2) (V_of_C h3 h4) (hG.below hb) h); clear h1 h3 hb hp hG h
 by_cases hn : 0 < n
 ·rw [decide_eq_true hn]; go_enter Tryz.func48, Tryz.ntmps48; go_wp2_with (go_at_call 17; refine (HC.out).mono ?_; rintro e w1 ⟨rfl, hb⟩; have HB := AS hb; clear hb); go_ret2; exact ⟨w1, HB.out, rfl, rfl⟩
 ·rw [decide_eq_false hn]; go_enter Tryz.func48, Tryz.ntmps48; go_wp2_with (go_at_call 17; refine (HC.out).mono ?_; rintro e w1 ⟨rfl, hb⟩; have HB := AS hb; clear hb); go_ret2; exact ⟨w1, HB.out, rfl, rfl⟩
def redOf (R O : List Int → List Int) (Z ch : List Int → Bool) (x : List Int) : Option (List Int) := if Z x then none else some (if ch x then O x else R x)
set_option maxHeartbeats 16000000 in
set_option maxRecDepth 100000 in
theorem reduced_calls (g : Nat) (Ap : Option Addr) (cp : Nat) (p : List Int) (A : Option Addr) (c : Nat) (l s : List (List Int)) (R O : List Int → List Int) (Z ch : List Int → Bool) (w : World)
  (hp : Kd.C (Kd.int .i64) w Ap p.length p) (hcp : p.length ≤ cp) (hr : Kd.C (Kd.slice 3 (Kd.int .i64)) w A l.length l) (hc : l.length ≤ c) (hG : GL w) (hl : l.length ≤ 1000)
  (eg : ∀ args w, (callFunc g args).run Tryz.prog w = .ok (.enter g args) w)
  (hR : ∀ x ∈ l, ∃ k q, interval_Reduce.f k p x = some (R x, q, 0)) (hZ : ∀ x ∈ l, row_IsZero.f (R x) = some (Z x)) (hO : ∀ x ∈ l, Z x = false → ∃ k, interval_Inverse.f k p x = some (O x, 0))
  (hch : ∀ x ∈ l, Z x = false → Chooses g Ap cp p (R x) (O x) (ch x) w) (ok : OnceOk p (l.filterMap (redOf R O Z ch)) s) :
  Calls Tryz.prog 46 #[.slice Ap p.length cp, .slice A l.length c, .func (.func g) #[] #[]] w fun e w' => ∃ B c', e = .returned (.tuple #[.slice B s.length c', .int .i64 0]) ∧ s.length ≤ c' ∧ Kd.C (Kd.slice 3 (Kd.int .i64)) w' B s.length s ∧ Below w.heap.size w w' := by
 have HP := AS hp; have HR := AS hr; have HGL := AS hG; have HOK := AS ok; have HRE := AS hR; have HZ := AS hZ; have HO := AS hO; have HCH := AS hch; clear hp hr hG ok hR hZ hO hch; go_enter Tryz.func46, Tryz.ntmps46; go_wp2
 go_loopw [8, 18] (fun v i wr => ∃ k : Nat, i = .int .i64 k ∧ k ≤ l.length ∧ Aside0 (Btw w ((l.take k).filterMap (redOf R O Z ch)) v wr)) (fun _ i _ => l.length - (intOf i).toNat)
 case atStart => exact ⟨0, rfl, Nat.zero_le _, ⟨RowsOf.nil _ _, Below.refl _ _⟩⟩
 case round =>
  obtain ⟨k, rfl, hk, HS⟩ := hrel
  by_cases hlt : k < l.length
  ·obtain ⟨ad, B, c', rfl, hcell0, hl', hC0⟩ := C_rows_at HR.out k hlt; have hcell := pcb HS.out.below hcell0
   have hmem : l.getD k [] ∈ l := by rw [List.getD_eq_getElem?_getD, List.getElem?_eq_getElem hlt]; exact List.getElem_mem _
   have HT : Aside0 ((l.take (k + 1)).filterMap (redOf R O Z ch) = (l.take k).filterMap (redOf R O Z ch) ++ (redOf R O Z ch (l.getD k [])).toList) := ⟨by
    rw [List.take_succ_eq_append_getElem hlt, List.filterMap_append, List.getD_eq_getElem?_getD, List.getElem?_eq_getElem hlt]; simp only [Option.getD_some]
    cases h : redOf R O Z ch l[k] <;> simp [List.filterMap_cons, h]⟩
   have HLN : Aside0 (((l.take k).filterMap (redOf R O Z ch)).length ≤ 1000) := ⟨by have := List.length_filterMap_le (redOf R O Z ch) (l.take k); rw [List.length_take] at this; omega⟩; have HMEM := AS hmem; have HC0 := AS hC0; generalize hx : l.getD k [] = x at *; clear hcell0 hC0 hx hmem
   obtain ⟨xn, hxn⟩ : ∃ xn, xn = x.length := ⟨_, rfl⟩
   obtain ⟨k1, q, hre⟩ := HRE.out x HMEM.out; have HC1 := AS (interval_Reduce.calls k1 Ap cp p _ B c' x (R x) q 0 wr (Kd.C_below HP.out HS.out.below) hcp (V_of_C (Kd.C_below HC0.out HS.out.below) hl') (HGL.out.below HS.out.below) hre); clear hre; generalize hz : Z x = z; have HZE := AS hz; clear hz
   cases z with
   | true =>
    go_wp2_with (first | (go_at_call 39; refine (HC1.out).mono ?_; rintro e w1 ⟨v1, rfl, hR1, hb1⟩; obtain ⟨A1, c1, rfl, hl1, hC1⟩ := Kd.R_reads hR1; have HS1 := AS (HS.out.step hb1); have HI := AS (row_IsZero.calls A1 c1 (R x) true w1 hC1 hl1 (HGL.out.below HS1.out.below) (by rw [← HZE.out]; exact HZ.out x HMEM.out)); clear hR1 hC1 hb1) | (go_at_call 40; refine (HI.out).mono ?_; rintro e w2 ⟨rfl, hb2⟩; have HS2 := AS (HS1.out.step hb2); clear hb2)); go_roundw
    case rel => exact ⟨k + 1, by go_num, by omega, ⟨by rw [HT.out, show redOf R O Z ch x = none by unfold redOf; rw [HZE.out]; rfl]; simpa using HS2.out⟩⟩
    case measure => simp [intOf]; omega
   | false =>
    obtain ⟨k2, hinv⟩ := HO.out x HMEM.out HZE.out; have HINV := AS hinv; have HCHX := AS (HCH.out x HMEM.out HZE.out); clear hinv; generalize hcx : ch x = cx at *; have HCX := AS hcx; clear hcx
    cases cx with
    | true =>
     go_wp2_with (first | (go_at_call 39; refine (HC1.out).mono ?_; rintro e w1 ⟨v1, rfl, hR1, hb1⟩; obtain ⟨A1, c1, rfl, hl1, hC1⟩ := Kd.R_reads hR1; have HS1 := AS (HS.out.step hb1); have HI := AS (row_IsZero.calls A1 c1 (R x) false w1 hC1 hl1 (HGL.out.below HS1.out.below) (by rw [← HZE.out]; exact HZ.out x HMEM.out)); have HC1' := AS hC1; clear hR1 hC1 hb1) | (go_at_call 40; refine (HI.out).mono ?_; rintro e w2 ⟨rfl, hb2⟩; have HS2 := AS (HS1.out.step hb2); have HC2' := AS (Kd.C_below HC1'.out hb2); have HCI := AS (interval_Inverse.calls k2 Ap cp p B c' x (O x) 0 w2 (Kd.C_below HP.out HS2.out.below) hcp (Kd.C_below HC0.out HS2.out.below) hl' (HGL.out.below HS2.out.below) HINV.out); clear hb2) | (go_at_call 15; refine (HCI.out).mono ?_; rintro e w3 ⟨v3, rfl, hR3, hb3⟩; have HRA3 := AS (RA.of_R (base := w.heap.size) hR3); obtain ⟨A3, c3, rfl, hl3, hC3⟩ := Kd.R_reads hR3; have HS3 := AS (HS2.out.step hb3); have HCC := AS (HCHX.out w3 A1 c1 A3 c3 HS3.out.below (Kd.C_below HC2'.out hb3) hl1 hC3 hl3); clear hR3 hC3 hb3)); refine (HCC.out).mono ?_; rintro e w4 ⟨X, hbX, rfl, rfl⟩; have HSX := AS (HS3.out.step hbX); have HRAX := AS (HRA3.out.below hbX); clear hbX; simp only [if_true, if_false, Bool.false_eq_true, reduceIte]; go_wp2_with (at_builtin; refine RowsOf.append (w0 := w) w.heap.size rfl (.tmp 54) (.tmp 55) 27 rfl Tryz.underlying27 info28_own _ ((l.take k).filterMap (redOf R O Z ch)) (O x) _ rfl rfl HRAX.out HSX.out.rows HSX.out.below HSX.out.below.size (by have := HLN.out; omega) ?_; intro v5 w5 h1 h2 h3 _; have HS5 := AS (Btw.mk h1 h2); clear h1 h2 h3); go_roundw
     case rel => exact ⟨k + 1, by go_num, by omega, ⟨by rw [HT.out, show redOf R O Z ch x = some (O x) by unfold redOf; rw [HZE.out, HCX.out]; rfl]; exact HS5.out⟩⟩
     case measure => simp [intOf]; omega
    | false =>
     go_wp2_with (first | (go_at_call 39; refine (HC1.out).mono ?_; rintro e w1 ⟨v1, rfl, hR1, hb1⟩; have HRA1 := AS (RA.of_R (base := w.heap.size) hR1); obtain ⟨A1, c1, rfl, hl1, hC1⟩ := Kd.R_reads hR1; have HS1 := AS (HS.out.step hb1); have HI := AS (row_IsZero.calls A1 c1 (R x) false w1 hC1 hl1 (HGL.out.below HS1.out.below) (by rw [← HZE.out]; exact HZ.out x HMEM.out)); have HC1' := AS hC1; clear hR1 hC1 hb1) | (go_at_call 40; refine (HI.out).mono ?_; rintro e w2 ⟨rfl, hb2⟩; have HS2 := AS (HS1.out.step hb2); have HRA2 := AS (HRA1.out.below hb2); have HC2' := AS (Kd.C_below HC1'.out hb2); have HCI := AS (interval_Inverse.calls k2 Ap cp p B c' x (O x) 0 w2 (Kd.C_below HP.out HS2.out.below) hcp (Kd.C_below HC0.out HS2.out.below) hl' (HGL.out.below HS2.out.below) HINV.out); clear hb2) | (go_at_call 15; refine (HCI.out).mono ?_; rintro e w3 ⟨v3, rfl, hR3, hb3⟩; have HRA3 := AS (HRA2.out.below hb3); obtain ⟨A3, c3, rfl, hl3, hC3⟩ := Kd.R_reads hR3; have HS3 := AS (HS2.out.step hb3); have HCC := AS (HCHX.out w3 A1 c1 A3 c3 HS3.out.below (Kd.C_below HC2'.out hb3) hl1 hC3 hl3); clear hR3 hC3 hb3)); refine (HCC.out).mono ?_; rintro e w4 ⟨X, hbX, rfl, rfl⟩; have HSX := AS (HS3.out.step hbX); have HRAX := AS (HRA3.out.below hbX); clear hbX; simp only [if_true, if_false, Bool.false_eq_true, reduceIte]; go_wp2_with (at_builtin; refine RowsOf.append (w0 := w) w.heap.size rfl (.tmp 54) (.tmp 55) 27 rfl Tryz.underlying27 info28_own _ ((l.take k).filterMap (redOf R O Z ch)) (R x) _ rfl rfl HRAX.out HSX.out.rows HSX.out.below HSX.out.below.size (by have := HLN.out; omega) ?_; intro v5 w5 h1 h2 h3 _; have HS5 := AS (Btw.mk h1 h2); clear h1 h2 h3); go_roundw
     case rel => exact ⟨k + 1, by go_num, by omega, ⟨by rw [HT.out, show redOf R O Z ch x = some (R x) by unfold redOf; rw [HZE.out, HCX.out]; rfl]; exact HS5.out⟩⟩
     case measure => simp [intOf]; omega
  ·obtain rfl : k = l.length := by omega
   rw [List.take_length] at HS; obtain ⟨A', c', rfl, hcc, hC'⟩ := HS.out.rows.reads; have HOC := AS (once_calls Ap cp p A' c' (l.filterMap (redOf R O Z ch)) s wr (Kd.C_below HP.out HS.out.below) hcp hC' hcc (HGL.out.below HS.out.below) HOK.out); clear hC'
   obtain ⟨dl, hdl⟩ : ∃ dl, dl = (l.filterMap (redOf R O Z ch)).length := ⟨_, rfl⟩
   go_wp2_with (go_at_call 84; refine (HOC.out).mono ?_; rintro e w7 ⟨B7, c7, rfl, hc7, hC7, hB7⟩; have HC7 := AS hC7; have HB7 := AS (bst HS.out.below hB7); clear hC7 hB7); go_ret2; exact ⟨_, _, rfl, hc7, HC7.out, HB7.out⟩
end Go.Proofs.YtkgkihichdcpmaaGreatDoor.H
end
section
namespace Go.Proofs.YtkgkihichdcpmaaGreatDoor.H
open Go.RowKit Go.Shelf Go.Proofs.YtkgkihichdcpmaaGreatDoorW.PrintWords Go.Proofs.YtkgkihichdcpmaaGreatDoorW.PrintLast Go.Proofs.YtkgkihichdcpmaaGreatDoorW.PrintMore
attribute [local go_sem] max2_int min2_int max_two min_two max_three min_three max_four min_four
set_option linter.unusedVariables false
set_option linter.unusedSimpArgs false
structure WholeOk (p : List Int) (l s : List (List Int)) (R O : List Int → List Int) (Z : List Int → Bool) : Prop where
 red : ∀ x ∈ l, ∃ k q, interval_Reduce.f k p x = some (R x, q, 0)
 zero : ∀ x ∈ l, row_IsZero.f (R x) = some (Z x)
 inv : ∀ x ∈ l, Z x = false → ∃ k, interval_Inverse.f k p x = some (O x, 0)
 once : OnceOk p (l.filterMap (redOf R O Z (fun _ => false))) s
 len : l.length ≤ 1000
theorem whole_calls (Ap : Option Addr) (cp : Nat) (p : List Int) (A : Option Addr) (c : Nat) (l s : List (List Int)) (R O : List Int → List Int) (Z : List Int → Bool) (w : World)
  (hp : Kd.C (Kd.int .i64) w Ap p.length p) (hcp : p.length ≤ cp) (hr : Kd.C (Kd.slice 3 (Kd.int .i64)) w A l.length l) (hc : l.length ≤ c) (hG : GL w) (ok : WholeOk p l s R O Z) :
  Calls Tryz.prog 46 #[.slice Ap p.length cp, .slice A l.length c, .func (.func 47) #[] #[]] w fun e w' => ∃ B c', e = .returned (.tuple #[.slice B s.length c', .int .i64 0]) ∧ s.length ≤ c' ∧ Kd.C (Kd.slice 3 (Kd.int .i64)) w' B s.length s ∧ Below w.heap.size w w' :=
 reduced_calls 47 Ap cp p A c l s R O Z (fun _ => false) w hp hcp hr hc hG ok.len (enters_of Tryz.func47 (by kernel_rfl) rfl) ok.red ok.zero ok.inv (fun x _ _ => whole_chooses Ap cp p _ _ w) ok.once
set_option maxHeartbeats 8000000 in
set_option maxRecDepth 100000 in
theorem diamond_calls (Ap : Option Addr) (cp : Nat) (p : List Int) (A : Option Addr) (c : Nat) (ns : List Int) (w : World)
  (hp : Kd.C (Kd.int .i64) w Ap p.length p) (hcp : p.length ≤ cp) (hr : Kd.C (Kd.int .i64) w A ns.length ns) (hc : ns.length ≤ c) (hG : GL w) (hchk : ∃ k, prCk.f k p = some 0) (hl : ns.length ≤ 20) (hn : ∀ n ∈ ns, 1 ≤ n ∧ n ≤ 99)
  (N : Int → List Int) (hN : ∀ n ∈ ns, ∃ k, target_number.f k p n = some (N n, true)) (s1 s2 : List (List Int)) (hsub : ∀ x ∈ ns.map N, ∀ y ∈ ns.map N, row_Sub.f x y = some (sub x y, 0)) (ok1 : OnceOk p (diffs (ns.map N)) s1)
  (R O : List Int → List Int) (Z : List Int → Bool) (ok2 : WholeOk p s1 s2 R O Z) :
  Calls Tryz.prog 28 #[.slice Ap p.length cp, .slice A ns.length c] w fun e w' => ∃ B c', e = .returned (.tuple #[.slice B s2.length c', .int .i64 0]) ∧ s2.length ≤ c' ∧ Kd.C (Kd.slice 3 (Kd.int .i64)) w' B s2.length s2 ∧ Below w.heap.size w w' := by
 obtain ⟨k0, hk0⟩ := hchk; have HCK := AS (prCk.calls k0 Ap cp p 0 w hp hcp hG hk0); have HP := AS hp; have HR := AS hr; have HGL := AS hG; have HOK1 := AS ok1; have HOK2 := AS ok2; have HSUB := AS hsub; have HNN := AS hN; have HNB := AS hn; clear hp hr hG ok1 ok2 hsub hN hn hk0; go_enter Tryz.func28, Tryz.ntmps28; go_wp2_with (go_at_call 25; refine (HCK.out).mono ?_; rintro e w0 ⟨rfl, hd⟩; have HB0 := AS hd.below; clear hd)
 go_loopw [7, 24] (fun v i wr => ∃ k : Nat, i = .int .i64 k ∧ k ≤ ns.length ∧ Aside0 (Btw w ((ns.take k).map N) v wr)) (fun _ i _ => ns.length - (intOf i).toNat)
 case atStart => exact ⟨0, rfl, Nat.zero_le _, ⟨RowsOf.nil _ _, HB0.out⟩⟩
 case round =>
  obtain ⟨k, rfl, hk, HS⟩ := hrel
  by_cases hlt : k < ns.length
  ·obtain ⟨ad, rfl, hcell0⟩ := C_int_at HR.out k hlt; have hcell := pcb HS.out.below hcell0
   have hmem : ns.getD k 0 ∈ ns := by rw [List.getD_eq_getElem?_getD, List.getElem?_eq_getElem hlt]; exact List.getElem_mem _
   have HT : Aside0 ((ns.take (k + 1)).map N = (ns.take k).map N ++ [N (ns.getD k 0)]) := ⟨by
    rw [List.take_succ_eq_append_getElem hlt, List.map_append, List.getD_eq_getElem?_getD, List.getElem?_eq_getElem hlt]
    rfl⟩
   obtain ⟨b1, b2⟩ := HNB.out _ hmem; obtain ⟨q, hq⟩ := HNN.out _ hmem; generalize ns.getD k 0 = x at *; have HCa := AS (target_number.calls q Ap cp p x (N x) true wr (Kd.C_below HP.out HS.out.below) hcp (HGL.out.below HS.out.below) hq); clear hcell0 hmem hq
   have hlm : ((ns.take k).map N).length ≤ 20 := by rw [List.length_map, List.length_take]; omega
   have HLM := AS hlm; clear hlm
   obtain ⟨y, hy⟩ : ∃ y, y = N x := ⟨_, rfl⟩
   rw [← hy] at HCa HT; clear hy; go_wp2_with (first | (go_at_call 57; refine (HCa.out).mono ?_; rintro e w3 ⟨z, rfl, hR3, hb3⟩; have HRA3 := AS (RA.of_R (base := w.heap.size) hR3); obtain ⟨A3, c3, rfl, hl3, hC3⟩ := Kd.R_reads hR3; have HS3 := AS (HS.out.step hb3); clear hR3 hC3 hb3) | (at_builtin; refine RowsOf.append (w0 := w) w.heap.size rfl (.tmp 42) (.tmp 44) 27 rfl Tryz.underlying27 info28_own _ ((ns.take k).map N) y _ rfl rfl HRA3.out HS3.out.rows HS3.out.below HS3.out.below.size (by have := HLM.out; omega) ?_; intro v5 w5 h1 h2 h3 _; have HS5 := AS (Btw.mk h1 h2); clear h1 h2 h3)); go_roundw
   case rel => exact ⟨k + 1, by go_num, by omega, ⟨by rw [HT.out]; exact HS5.out⟩⟩
   case measure => simp [intOf]; omega
  ·obtain rfl : k = ns.length := by omega
   rw [List.take_length] at HS; obtain ⟨A', c', rfl, hcc, hC'⟩ := HS.out.rows.reads; have HO := AS (between_calls Ap cp p A' c' (ns.map N) s1 wr (Kd.C_below HP.out HS.out.below) hcp hC' hcc (HGL.out.below HS.out.below) (by rw [List.length_map]; exact hl) HSUB.out HOK1.out); rw [List.length_map] at HO; clear hC'; go_wp2_with (first | (go_at_call 52; refine (HO.out).mono ?_; rintro e w7 ⟨B7, c7, rfl, hc7, hC7, hB7⟩; have HB7 := AS (bst HS.out.below hB7); have HW := AS (whole_calls Ap cp p B7 c7 s1 s2 R O Z w7 (Kd.C_below HP.out HB7.out) hcp hC7 hc7 (HGL.out.below HB7.out) HOK2.out); clear hC7 hB7) | (go_at_call 46; refine (HW.out).mono ?_; rintro e w8 ⟨B8, c8, rfl, hc8, hC8, hB8⟩; have HC8 := AS hC8; have HB8 := AS (bst HB7.out hB8); clear hC8 hB8)); go_ret2; exact ⟨_, _, rfl, hc8, HC8.out, HB8.out⟩
end Go.Proofs.YtkgkihichdcpmaaGreatDoor.H
end
section
namespace Go.Proofs.YtkgkihichdcpmaaGreatDoor.H
open Go.RowKit Go.Shelf Go.Proofs.YtkgkihichdcpmaaGreatDoorW.PrintWords Go.Proofs.YtkgkihichdcpmaaGreatDoorW.PrintLast Go.Proofs.YtkgkihichdcpmaaGreatDoorW.PrintMore
attribute [local go_sem] Oper.semAt_some
set_option linter.unusedVariables false
set_option linter.unusedSimpArgs false
structure SmX where
 n : Int
 x : List Int
 v : Value
 n0 : 1 ≤ n
 n1 : n ≤ 1000
def SmX.told (z : SmX) : Int × List Int := (z.n, z.x)
def encSm (z : SmX) : Array Value := #[.int .i64 z.n, z.v]
def smAt (Nf : Int → List Int × Bool) (k : Nat) : Option (Int × List Int) := if (Nf ((k : Int) + 1)).2 then some ((k : Int) + 1, (Nf ((k : Int) + 1)).1) else none
def smTo (Nf : Int → List Int × Bool) (k : Nat) : List (Int × List Int) := (List.range k).filterMap (smAt Nf)
theorem smTo_succ (Nf : Int → List Int × Bool) (k : Nat) : smTo Nf (k + 1) = smTo Nf k ++ (smAt Nf k).toList := by
 unfold smTo; rw [List.range_succ, List.filterMap_append]
 cases h : smAt Nf k <;> simp [List.filterMap_cons, h]
theorem smTo_len (Nf : Int → List Int × Bool) (k : Nat) : (smTo Nf k).length ≤ k := by
 have := List.length_filterMap_le (smAt Nf) (List.range k)
 rwa [List.length_range] at this
set_option maxRecDepth 100000 in
set_option maxHeartbeats 8000000 in
theorem smooth1_in (Nf : Int → List Int × Bool) (lim : Nat) (hlim : lim ≤ 1000) (n : Nat) (hn : 1 ≤ n) (l B1 B2 n₀ : Nat) (Ap : Option Addr) (cp : Nat) (p : List Int) (hcp : p.length ≤ cp) (hN : ∀ i : Int, 1 ≤ i → i ≤ lim → ∃ k, target_number.f k p i = some (Nf i))
  (hB1 : n₀ ≤ B1) (hB2 : n₀ ≤ B2) (hB2' : B2 ≤ B1 + 1) (hB1' : B1 ≤ B2 + 1) (J : List SmX → World → Prop)
  (hJ : ∀ s A B, J s A → Below A.heap.size A B → J s B)
  (hY : ∀ pre x W, J pre W → RA 0 W x.x [x.v] → pre.length < 1000 → YieldAt Fence.wide (n - 1) Tryz.prog l (encSm x) W fun e W' =>
   e = .returned (.bool true) ∧ J (pre ++ [x]) W' ∧ KeepsB n₀ (min B1 B2) (max B1 B2 + 1) W W')
  (W : World) (hG : GL W) (hn0 : n₀ = W.heap.size ∨ True) (hGn : ∀ W', Below n₀ W W' → GL W') (hp : ∀ W', Below n₀ W W' → Kd.C (Kd.int .i64) W' Ap p.length p)
  (hc1 : W.cell? ⟨B1, 0, none⟩ = some (.int .i64 lim)) (hc2 : W.cell? ⟨B2, 0, none⟩ = some (.slice Ap p.length cp)) (hl1 : B1 < W.heap.size) (hl2 : B2 < W.heap.size) (h0 : J [] W) :
  CallsIn Fence.wide n Tryz.prog 85 #[.func (.yield l) #[] #[], .pointer (some ⟨B1, 0, none⟩), .pointer (some ⟨B2, 0, none⟩)] W fun e W' => (∃ v, e = .returned v) ∧ ∃ ys : List SmX, ys.map SmX.told = smTo Nf lim ∧ J ys W' := by
 have HGn := AS hGn; have HPn := AS hp; have HN := AS hN; have HJ := AS hJ; have HY := AS hY; clear hGn hp hN hJ hY hG hn0; refine callsIn_of_wp Tryz.func85 rfl trivial ?_ rfl; simp only [Tryz.ntmps85, List.size_toArray, List.length_cons, List.length_nil, Nat.reduceAdd, Nat.reduceSub, Array.replicate_succ, Array.replicate_zero, List.push_toArray, List.append_toArray, List.nil_append, List.cons_append]
 gi_wp2
 gi_loopw [4] (fun i wr => ∃ k : Nat, k ≤ lim ∧ i = .int .i64 ((k : Int) + 1) ∧ Aside0 (∃ ys : List SmX, ys.map SmX.told = smTo Nf k ∧ J ys wr) ∧ Aside0 (KeepsB n₀ (min B1 B2) (max B1 B2 + 1) W wr))
  (fun i _ => lim + 1 - (intOf i).toNat)
 case atStart => exact ⟨0, Nat.zero_le _, rfl, ⟨[], rfl, h0⟩, ⟨KeepsB.refl _ _ _ _⟩⟩
 case round =>
  obtain ⟨k, hk, rfl, HJs, HK⟩ := hrel; have hc1' := (HK.out.cell (p := ⟨B1, 0, none⟩) (Nat.min_le_left _ _) (Nat.lt_succ_of_le (Nat.le_max_left _ _))).trans hc1; have hc2' := (HK.out.cell (p := ⟨B2, 0, none⟩) (Nat.min_le_right _ _) (Nat.lt_succ_of_le (Nat.le_max_right _ _))).trans hc2
  by_cases hlt : k < lim
  ·obtain ⟨q, hq⟩ := HN.out ((k : Int) + 1) (by omega) (by omega); have HSU := AS (smTo_succ Nf k); have HLE := AS (smTo_len Nf k); generalize hr : Nf ((k : Int) + 1) = r at *; obtain ⟨x, b⟩ := r; have HAT : Aside0 (smAt Nf k = if b then some ((k : Int) + 1, x) else none) := ⟨by unfold smAt; rw [hr]⟩; have HC := AS (target_number.calls q Ap cp p ((k : Int) + 1) x b wr (HPn.out wr HK.out.1) hcp (HGn.out wr HK.out.1) hq); clear hr hq
   cases b with
   | false =>
    gi_wp2_with fail
    refine ⟨trivial, (callsIn_wide.2 HC.out).mono ?_⟩; rintro e w1 ⟨v1, rfl, hR1, hb1⟩; have HJ1 := AS hb1; clear hR1 hb1
    gi_wp2_with fail
    refine ⟨(fun f hf_ => by cases hf_), ?_⟩
    gi_wp2
    go_roundw
    case rel =>
     refine ⟨k + 1, by omega, by go_num, ?_, ?_⟩
     ·obtain ⟨ys, e1, e2⟩ := HJs.out; exact ⟨ys, by rw [HSU.out, HAT.out, e1]; simp, HJ.out _ _ _ e2 HJ1.out⟩
     ·exact ⟨HK.out.trans ⟨HJ1.out.mono (by have := HK.out.1.size; omega), fun q h1 h2 => HJ1.out.block q (by have := HK.out.1.size; omega)⟩⟩
    case measure => simp [intOf]; omega
   | true =>
    obtain ⟨ys, e1, e2⟩ := HJs.out
    have hyl : ys.length < 1000 := by
     have h3 := congrArg List.length e1; rw [List.length_map] at h3; have := HLE.out
     omega
    have HE1 := AS e1; have HE2 := AS e2; clear e1 e2 HJs
    gi_wp2_with fail
    refine ⟨trivial, (callsIn_wide.2 HC.out).mono ?_⟩; rintro e w1 ⟨v1, rfl, hR1, hb1⟩; have HB1 := AS hb1; obtain ⟨fn, tmps, assign, body, hy, hR⟩ := HY.out ys ⟨(k : Int) + 1, x, v1, by omega, by omega⟩ w1 (HJ.out _ _ _ HE2.out hb1) (RA.of_R hR1) hyl; have HRR := AS hR; simp only [encSm] at hy; clear hR hR1 hb1
    gi_wp2_with fail
    refine HRR.out.mono ?_; rintro e W3 ⟨rfl, hJ3, hk3⟩; have HJ3 := AS hJ3; have HK3 := AS hk3; clear hJ3 hk3
    gi_wp2
    go_roundw
    case rel =>
     refine ⟨k + 1, by omega, by go_num, ⟨_, ?_, HJ3.out⟩, ⟨HK.out.trans (KeepsB.trans ⟨HB1.out.mono (by have := HK.out.1.size; omega), fun q h1 h2 => HB1.out.block q (by have := HK.out.1.size; omega)⟩ HK3.out)⟩⟩; rw [List.map_append, HE1.out, HSU.out, HAT.out]; rfl
    case measure => simp [intOf]; omega
  ·obtain rfl : k = lim := by omega
   obtain ⟨ys, e1, e2⟩ := HJs.out; clear HJs
   gi_wp2
   go_end0
   exact ⟨⟨_, rfl⟩, _, e1, e2⟩
set_option maxHeartbeats 1000000 in
theorem smooth_in (n : Nat) (Ap : Option Addr) (lp cp : Nat) (lim : Int) (w : World) :
  CallsIn Fence.wide n Tryz.prog 51 #[.slice Ap lp cp, .int .i64 lim] w fun e w' => e = .returned (.func (.func 85) #[] #[.pointer (some ⟨w.heap.size + 1, 0, none⟩), .pointer (some ⟨w.heap.size, 0, none⟩)]) ∧ w' = (w.alloc (.cells #[.slice Ap lp cp] 25)).alloc (.cells #[.int .i64 lim] 3) := by
 refine callsIn_of_wp Tryz.func51 rfl trivial ?_ rfl; simp only [Tryz.ntmps51, List.size_toArray, List.length_cons, List.length_nil, Nat.reduceAdd, Nat.reduceSub, Array.replicate_succ, Array.replicate_zero, List.push_toArray, List.append_toArray, List.nil_append, List.cons_append]
 gi_wp2
 go_ret; exact ⟨rfl, rfl⟩
theorem smooth_seq (Nf : Int → List Int × Bool) (lim : Nat) (hlim : lim ≤ 1000) (n : Nat) (hn : 1 ≤ n) (B n₀ : Nat) (Ap : Option Addr) (cp : Nat) (p : List Int) (hcp : p.length ≤ cp) (hN : ∀ i : Int, 1 ≤ i → i ≤ lim → ∃ k, target_number.f k p i = some (Nf i))
  (hB : n₀ ≤ B) (w : World) (hGn : ∀ W', Below n₀ w W' → GL W') (hp : ∀ W', Below n₀ w W' → Kd.C (Kd.int .i64) W' Ap p.length p) (hnw : n₀ ≤ w.heap.size)
  (hc1 : w.cell? ⟨B + 1, 0, none⟩ = some (.int .i64 lim)) (hc2 : w.cell? ⟨B, 0, none⟩ = some (.slice Ap p.length cp)) (hl1 : B + 1 < w.heap.size) :
  SeqX Fence.wide n Tryz.prog 85 #[.pointer (some ⟨B + 1, 0, none⟩), .pointer (some ⟨B, 0, none⟩)] encSm (fun x W => RA 0 W x.x [x.v]) (KeepsB n₀ B (B + 2)) (fun ys => ys.map SmX.told = smTo Nf lim) 1000 w := by
 intro l J W hW hA hY h0; have hWn := hW.mono hnw
 have e1 : min (B + 1) B = B := by omega
 have e2 : max (B + 1) B + 1 = B + 2 := by omega
 have h1 := (hW.cell (p := ⟨B + 1, 0, none⟩) hl1).trans hc1; have h2 := (hW.cell (p := ⟨B, 0, none⟩) (show B < w.heap.size by omega)).trans hc2; refine smooth1_in Nf lim hlim n hn l (B + 1) B n₀ Ap cp p hcp hN (by omega) hB (by omega) (by omega) J (fun s X Y hs hb => hA s X Y none hs (grown_of_below hb none) (fun r e => by cases e)) ?_ W (hGn W hWn) (.inr trivial) (fun W' h => hGn W' (hWn.trans h)) (fun W' h => hp W' (hWn.trans h)) h1 h2 (by have := hW.size; omega) (by have := hW.size; omega) h0; intro pre x W1 hj hx hlen; rw [e1, e2]; exact hY pre x W1 hj hx hlen
end Go.Proofs.YtkgkihichdcpmaaGreatDoor.H
end
section
namespace Go.Proofs.YtkgkihichdcpmaaGreatDoor.H
open Go.RowKit Go.Shelf Go.Proofs.YtkgkihichdcpmaaGreatDoorW.PrintWords Go.Proofs.YtkgkihichdcpmaaGreatDoorW.PrintLast Go.Proofs.YtkgkihichdcpmaaGreatDoorW.PrintMore
attribute [local go_sem] Oper.semAt_some
set_option linter.unusedVariables false
set_option linter.unusedSimpArgs false
def oddB (n : Int) : Bool := decide (n % 2 = 1)
def odds (ys : List SmX) : List Int := (ys.map SmX.n).filter oddB
theorem RA_own : ∀ n₀, OwnFrom n₀ (fun (x : SmX) W => RA 0 W x.x [x.v]) := fun n₀ s A B row hs hg hr => hs.grown hg fun g hg' => by
 obtain ⟨_, o, ho, hc⟩ := hr g hg'; exact ⟨Nat.zero_le _, fun cells e => by rw [ho] at e; injection e with e; subst e; simp [Obj.isCells] at hc⟩
theorem C_move {α : Type} {d : Kd α} {W W' : World} {A : Option Addr} {n : Nat} {xs : List α} (h : d.C W A n xs) (hc : ∀ a u, W.cell? a = some u → W'.cell? a = some u) (hK : ∀ x cs, d.K W x cs → d.K W' x cs) : d.C W' A n xs := by
 refine ⟨h.1, h.2.1, fun h0 => ?_⟩; obtain ⟨ad, e, h3⟩ := h.2.2 h0; refine ⟨ad, e, fun j p hj => ?_⟩; obtain ⟨c, h4, h5, h6⟩ := h3 j p hj; exact ⟨c, h4, hK _ _ h5, fun i u hu => hc _ _ (h6 i u hu)⟩
theorem cell_putObj {W : World} {D : Nat} {o o' : Obj} (hD : W.heap[D]? = some o) (ho : o.isCells = false) (a : Addr) (u : Value) (h : W.cell? a = some u) : (W.putObj D o').cell? a = some u := by
 have hne : a.block ≠ D := fun e => by
  simp only [World.cell?, e, hD] at h
  cases o <;> simp [Obj.isCells] at h ho
 rw [← h]; simp only [World.cell?, World.putObj_heap_other hne]
theorem C_rows_putObj {W : World} {A : Option Addr} {n D : Nat} {xs : List (List Int)} {o o' : Obj} (h : Kd.C (Kd.slice 3 (Kd.int .i64)) W A n xs) (hD : W.heap[D]? = some o) (ho : o.isCells = false) : Kd.C (Kd.slice 3 (Kd.int .i64)) (W.putObj D o') A n xs :=
 C_move h (cell_putObj hD ho) fun x cs hx => by
  obtain ⟨A', c', e, hl, hC⟩ := hx; exact ⟨A', c', e, hl, C_move hC (cell_putObj hD ho) fun _ _ h => h⟩
set_option maxHeartbeats 8000000 in
set_option maxRecDepth 100000 in
theorem odd_walk (Ap : Option Addr) (cp : Nat) (p : List Int) (lim : Nat) (w : World) (hp : Kd.C (Kd.int .i64) w Ap p.length p) (hcp : p.length ≤ cp) (hG : GL w) (hchk : ∃ k, target_checkLimit.f k p lim = some 0) (hp0 : 0 < p.length ∧ p.getD 0 0 = 2) (hlim : lim ≤ 99)
  (Nf : Int → List Int × Bool) (hN : ∀ i : Int, 1 ≤ i → i ≤ lim → ∃ k, target_number.f k p i = some (Nf i)) (ns : List Int) (hns : ns = ((smTo Nf lim).map (·.1)).filter oddB) (s : List (List Int))
  (hdia : ∀ W A c, Below w.heap.size w W → Kd.C (Kd.int .i64) W A ns.length ns → ns.length ≤ c → Calls Tryz.prog 28 #[.slice Ap p.length cp, .slice A ns.length c] W fun e w' => ∃ B c', e = .returned (.tuple #[.slice B s.length c', .int .i64 0]) ∧ s.length ≤ c' ∧ Kd.C (Kd.slice 3 (Kd.int .i64)) w' B s.length s ∧ Below W.heap.size W w') :
  CallsIn Fence.wide 5 Tryz.prog 22 #[.slice Ap p.length cp, .int .i64 lim] w fun e w' => ∃ B c', e = .returned (.tuple #[.slice B s.length c', .int .i64 0]) ∧ s.length ≤ c' ∧ Kd.C (Kd.slice 3 (Kd.int .i64)) w' B s.length s ∧ Below w.heap.size w w' := by
 obtain ⟨k0, hk0⟩ := hchk; have HCK := AS (target_checkLimit.calls k0 Ap cp p lim 0 w hp hcp hG hk0); obtain ⟨ad, rfl, hcell0⟩ := C_int_at hp 0 hp0.1; rw [hp0.2] at hcell0; have HP := AS hp; have HGL := AS hG; have HN := AS hN; have HNS := AS hns; have HDI := AS hdia; have hp1 := hp0.1
 have hadd : ad.add 0 = ad := by unfold Addr.add; split <;> simp_all
 rw [hadd] at hcell0; clear hp hG hN hns hdia hk0 hp0 hadd; refine callsIn_of_wp_marks Tryz.func22 rfl trivial ?_ rfl; simp only [Tryz.ntmps22, List.size_toArray, List.length_cons, List.length_nil, Nat.reduceAdd, Nat.reduceSub, Array.replicate_succ, Array.replicate_zero, List.push_toArray, List.append_toArray, List.nil_append, List.cons_append]
 gi_wp2_with (first | (refine ⟨trivial, ?_⟩; gi_at_call 50; refine (callsIn_wide.2 HCK.out).mono ?_; rintro e w1 ⟨rfl, hd⟩; have hb1 := hd.below; have hcell := pcb hb1 hcell0; have HB1 := AS hb1; have hs1 := hb1.size; clear hd hb1 hcell0) | (refine ⟨trivial, ?_⟩; gi_at_call 51; refine (smooth_in 4 _ _ _ _ _).mono ?_; rintro e w3 ⟨rfl, rfl⟩))
 simp only [Nat.add_assoc, Nat.reduceAdd]
 obtain ⟨W0, hW0⟩ : ∃ W0, ((w1.alloc (.cells #[.slice none 0 0] 24)).alloc (.cells #[.slice (some ad) p.length cp] 25)).alloc (.cells #[.int .i64 (lim : Int)] 3) = W0 := ⟨_, rfl⟩
 have hsz : W0.heap.size = w1.heap.size + 3 := by rw [← hW0]; simp
 have hB0 : Below w.heap.size w W0 := by
  rw [← hW0]; exact ((HB1.out.alloc hs1 _).alloc (by simp; omega) _).alloc (by simp; omega) _
 have hb0 : Boxed W0 w1.heap.size 24 (.slice none 0 0) := by
  rw [← hW0]; exact ((Boxed.new w1 24 _).alloc _).alloc _
 have hb1 : Boxed W0 (w1.heap.size + 1) 25 (.slice (some ad) p.length cp) := by
  rw [← hW0]; have := Boxed.new (w1.alloc (.cells #[.slice none 0 0] 24)) 25 (.slice (some ad) p.length cp); rw [World.size_alloc] at this; exact this.alloc _
 have hb2 : Boxed W0 (w1.heap.size + 2) 3 (.int .i64 (lim : Int)) := by
  rw [← hW0]; have := Boxed.new ((w1.alloc (.cells #[.slice none 0 0] 24)).alloc (.cells #[.slice (some ad) p.length cp] 25)) 3 (.int .i64 (lim : Int)); rw [World.size_alloc, World.size_alloc] at this; exact this
 rw [hW0]; clear hW0; obtain ⟨i0, hi, hzz⟩ := Option.map_eq_some_iff.1 info3_row; simp only [Prod.mk.injEq] at hzz; obtain ⟨hz0, hz1, hz2⟩ := hzz
 refine wpIn_rangeFunc_X (n := 5) rfl (by decide) (gf := 85) (lb := #[.pointer (some ⟨w1.heap.size + 2, 0, none⟩), .pointer (some ⟨w1.heap.size + 1, 0, none⟩)]) rfl trivial (enters_of Tryz.func85 (by kernel_rfl) rfl) (X := fun (x : SmX) W => RA 0 W x.x [x.v])
  (smooth_seq Nf lim (by omega) 4 (by decide) (w1.heap.size + 1) w.heap.size (some ad) cp p hcp HN.out (by omega) W0 (fun W' h => HGL.out.below (hB0.trans h)) (fun W' h => Kd.C_below HP.out (hB0.trans h)) (by omega) hb2.cell hb1.cell (by omega))
  KeepsB.trans (keepsB_b (by omega) (by omega)) (Below.refl _ _) (fun _ => rfl)
  (fun pre W => (∃ v, Boxed W w1.heap.size 24 v ∧ W.ownsRow w.heap.size 3 1 v (odds pre).length ((odds pre).map fun z => .int .i64 z) ∧ ∀ k, v.ownBlock = some k → w1.heap.size + 3 ≤ k) ∧ Below w.heap.size w W ∧ w1.heap.size + 3 ≤ W.heap.size)
  (OwnFrom.and (Own.from (holdsRow_own w.heap.size w1.heap.size 24 3 1 (fun pre : List SmX => (odds pre).length) (fun pre : List SmX => (odds pre).map fun z => .int .i64 z) (fun _ v => ∀ k, v.ownBlock = some k → w1.heap.size + 3 ≤ k)) _) (OwnFrom.and (ownFrom_below (Nat.le_refl _) (by omega)) (fun _ _ _ _ hs hg _ => Nat.le_trans hs hg.size)))
  (RA_own _)
  ⟨⟨_, hb0, own_nil _ _ _ _, fun k e => by simp [Value.ownBlock] at e⟩, hB0, by omega⟩
  (fun z => { tmps := #[.slice (some ad) p.length cp, .int .i64 (lim : Int), undef, undef, .slice none 0 0, .int .i64 0, .int .i64 0, .pointer (some ⟨w1.heap.size, 0, none⟩), .int .i64 z.n, .slice (some ad) p.length cp, .int .i64 (lim : Int), .int .i64 0, .int .i64 0, .bool false, undef, .slice (some ad) p.length cp, .pointer (some ad), .int .i64 2, .bool false, .slice (some ad) p.length cp, .int .i64 (lim : Int), .func (.func 85) #[] #[.pointer (some ⟨w1.heap.size + 2, 0, none⟩), .pointer (some ⟨w1.heap.size + 1, 0, none⟩)], .int .i64 z.n, z.v, undef, undef, undef, undef, undef, undef, undef, undef, undef, undef, undef, undef], defers := [] }) ?assign ?body ?done
 case assign =>
  intro l x W K hK; simp only [encSm]
  gi_wp2
  exact hK
 case body =>
  rintro l pre z W ⟨⟨v, hv, hrow, hG⟩, hB, hS⟩ hx hlt; have hcv := hv.cell; have z0 := z.n0; have z1 := z.n1
  have hol : (odds pre).length ≤ 1000 := by
   unfold odds; have := List.length_filter_le oddB (pre.map SmX.n); rw [List.length_map] at this
   omega
  have HO : Aside0 (odds (pre ++ [z]) = odds pre ++ if z.n % 2 = 1 then [z.n] else []) := ⟨by
   unfold odds; rw [List.map_append, List.filter_append]
   congr 1
   by_cases h : z.n % 2 = 1 <;> simp [oddB, h]⟩
  have HX := AS hx; clear hx
  by_cases ho : z.n % 2 = 1
  ·rw [if_pos ho] at HO
   gi_wp2_with (gi_at_builtin; refine wpListIn_append_own_at _ rfl _ _ 24 rfl w.heap.size 3 i0 (.int .i64 0) 1 8 Tryz.underlying24 hi hz0 hz1 hz2 rfl (by decide) _ _ _ rfl (hrow.alloc _) ⟨W.heap.size, 0, none⟩ 1 1 [.int .i64 z.n] rfl rfl (cell_one_new _ _ _) (by simp [Value.oneCell']) (by unfold maxLen; omega) (by omega) (by have := hB.size; simp; omega) ?_; intro v' w9 hown' hgrow _ hat; obtain ⟨g', cap', rfl⟩ := ownsRow_succ hown'; obtain ⟨hv1, hv2, hr2, hk2, hb5⟩ := hv.appended (by decide) hrow hB.size (by omega) hown' hgrow; have hc9 := hv1.cell; have hf9 := hv1.frozen)
   have hk3 : KeepsB w.heap.size (w1.heap.size + 1) (w1.heap.size + 1 + 2) W (w9.setCell ⟨w1.heap.size, 0, none⟩ (.slice (some ⟨g', 0, none⟩) ((odds pre).length + 1) cap')) := ⟨hb5, fun k h1 h2 => by
    rw [Below.heap_setCell _ _ _ _ (show k ≠ w1.heap.size by omega), hgrow.block k (by simp; omega) (fun e => by have := hG k e.symm; omega), Below.heap_alloc _ _ _ (by omega)]⟩
   have hg' : w1.heap.size + 3 ≤ g' := by
    rcases hat with hat | hat
    ·have hat' : some g' = v.ownBlock := hat; exact hG g' hat'.symm
    ·have hat : some g' = some _ := hat; injection hat with hat
     rw [hat]; simp; omega
   refine ⟨hk2.from _, hk3, ⟨⟨_, hv2, ?_, fun k e => ?_⟩, hB.trans hb5, by have := hb5.size; omega⟩⟩
   ·rw [HO.out]
    simpa using hr2
   ·have e : some g' = some k := e; injection e with e
    omega
  ·rw [if_neg ho] at HO
   gi_wp2
   exact ⟨KeepsFrom.refl _ _, KeepsB.refl _ _ _ _, ⟨⟨v, hv, by rw [HO.out, List.append_nil]; exact hrow, hG⟩, hB, hS⟩⟩
 case done =>
  rintro D ys W hD hys ⟨⟨v, hv, hrow, hG⟩, hB, hS⟩ hK; have hcv := hv.cell
  have hod : odds ys = ns := by
   rw [HNS.out, ← hys]; unfold odds; rw [List.map_map]; rfl
  rw [hod] at hrow; have hR0 : Kd.R (Kd.int .i64) 3 W w.heap.size (fun _ => True) v ns := Kd.R_of_own hrow (fun _ _ => trivial); obtain ⟨A, c, rfl, hcc, hC⟩ := Kd.R_reads hR0; have HR := AS (show CallsIn Fence.wide 4 Tryz.prog 28 #[.slice (some ad) p.length cp, .slice A ns.length c] W _ from callsIn_wide.2 (HDI.out W A c hB hC hcc)); clear hrow hR0 hC hod hys hG
  gi_wp2_with (refine ⟨trivial, ?_⟩; gi_at_call 28; refine (HR.out).mono ?_; rintro e X ⟨B, c', rfl, hc', hCX, hbX⟩; have HBX := AS hbX; have HCX := AS hCX; clear hbX hCX)
  have hKX := (HBX.out.block D (Array.getElem?_eq_some_iff.1 hK).1).trans hK; refine ⟨by simp, .inl ⟨_, _, rfl, run_takeDeferred hKX, ?_⟩⟩; refine ⟨_, results_tmp2 rfl _ _ _, B, c', rfl, hc', ?_, (bst hB HBX.out).trans (belowK_b (w := w) (Nat.le_refl _) X D _ (.deferred none) (by have := hB.size; omega) hKX rfl rfl)⟩; exact C_rows_putObj HCX.out hKX rfl
end Go.Proofs.YtkgkihichdcpmaaGreatDoor.H
end
section
namespace Go.Proofs.YtkgkihichdcpmaaGreatDoor.H
open Go.RowKit Go.Shelf Go.Proofs.YtkgkihichdcpmaaGreatDoorW.PrintWords Go.Proofs.YtkgkihichdcpmaaGreatDoorW.PrintLast Go.Proofs.YtkgkihichdcpmaaGreatDoorW.PrintMore
attribute [local go_sem] Oper.semAt_some
set_option linter.unusedVariables false
set_option linter.unusedSimpArgs false
set_option maxHeartbeats 4000000 in
set_option maxRecDepth 100000 in
theorem int1_calls (k : Nat) (Ap : Option Addr) (cp : Nat) (p : List Int) (A1 : Option Addr) (c1 : Nat) (x : List Int) (B1 : Nat) (n : Int) (w : World)
  (hp : Kd.C (Kd.int .i64) w Ap p.length p) (hcp : p.length ≤ cp) (hx : Kd.C (Kd.int .i64) w A1 x.length x) (hcx : x.length ≤ c1) (hG : GL w) (hb1 : w.cell? ⟨B1, 0, none⟩ = some (.slice Ap p.length cp)) (h : monzo_Sign.f k p x = some (n, 0)) :
  Calls Tryz.prog 54 #[.slice A1 x.length c1, .pointer (some ⟨B1, 0, none⟩)] w fun e w' => e = .returned (.tuple #[.bool (decide (0 < n)), .int .i64 0]) ∧ Below w.heap.size w w' := by
 have HC := AS (monzo_Sign.calls k Ap cp p A1 c1 x n 0 w hp hcp hx hcx hG h); clear hp hx hG h; go_enter Tryz.func54, Tryz.ntmps54; go_wp2_with (go_at_call 55; refine (HC.out).mono ?_; rintro e w1 ⟨rfl, hb⟩; have HB := AS hb; clear hb); go_ret2; exact ⟨rfl, HB.out⟩
theorem RA.appended {base : Nat} {W w9 : World} {x : List Int} {cs : List Value} {v u : Value} (h : RA base W x cs) (tmp : Obj) (hgrow : (W.alloc tmp).grownBy w9 v.ownBlock) (hfree : ∀ g, v.ownBlock = some g → base ≤ g ∧ ∀ cells, W.heap[g]? ≠ some (.cells cells 3 (0, 0))) (hlt : ∀ g, v.ownBlock = some g → g < W.heap.size)
  (b : Nat) (hb : base ≤ b) (hv1 : Boxed w9 b 27 u) (v' : Value) : RA base (w9.setCell ⟨b, 0, none⟩ v') x cs := by
 have h1 := h.below ((Below.refl _ W).alloc (Nat.le_refl _) tmp); have h2 := h1.grown hgrow (fun g hg => ⟨(hfree g hg).1, fun cells e => (hfree g hg).2 cells (by rwa [Below.heap_alloc _ _ _ (hlt g hg)] at e)⟩); refine h2.grown (grownBy_setCell' w9 b v') (fun g hg => ?_); injection hg with hg; subst hg
 exact ⟨hb, fun cells e => by
  have h3 : w9.heap[b]? = _ := hv1; rw [h3] at e; injection e with e; injection e with _ e _
  exact absurd e (by decide)⟩
def Gath (base b n₁ : Nat) (rows : List (List Int)) (W : World) : Prop := ∃ v, Boxed W b 27 v ∧ RowsOf base W v rows ∧ ∀ k, v.ownBlock = some k → n₁ ≤ k
theorem gath_own {β : Type} (base b n₁ n₂ : Nat) (hb : base ≤ n₂) (f : β → List (List Int)) : OwnFrom n₂ (fun s W => Gath base b n₁ (f s) W) := by
 rintro s A B row ⟨v, hv, hr, hG⟩ hg hrow
 have hnc : ∀ g, row = some g → ∀ cells t m, A.heap[g]? ≠ some (.cells cells t m) := fun g e cells t m e2 => by
  obtain ⟨_, o, ho, hc⟩ := hrow g e; rw [ho] at e2; injection e2 with e2; subst e2; simp [Obj.isCells] at hc
 refine ⟨v, hv.kept hg (fun e => hnc _ e.symm _ _ _ hv), hr.grown hg (fun g e => ⟨Nat.le_trans hb (hrow g e).1, fun cells => hnc g e cells 3 _⟩) ?_, hG⟩
 cases hv2 : v.ownBlock with
 | none => exact .inl rfl
 | some g =>
  refine .inr fun e => ?_
  obtain ⟨_, _, cells, h3⟩ := hr.block g hv2; exact hnc g e.symm _ _ _ h3
set_option maxHeartbeats 8000000 in
set_option maxRecDepth 100000 in
theorem integer_walk (Ap : Option Addr) (cp : Nat) (p : List Int) (lim : Nat) (w : World) (hp : Kd.C (Kd.int .i64) w Ap p.length p) (hcp : p.length ≤ cp) (hG : GL w) (hchk : ∃ k, target_checkLimit.f k p lim = some 0) (hlim : lim ≤ 99)
  (Nf : Int → List Int × Bool) (hN : ∀ i : Int, 1 ≤ i → i ≤ lim → ∃ k, target_number.f k p i = some (Nf i)) (l : List (List Int)) (hl : l = (smTo Nf lim).map (·.2)) (hl20 : l.length ≤ 20) (s : List (List Int))
  (hsub : ∀ x ∈ l, ∀ y ∈ l, row_Sub.f x y = some (sub x y, 0)) (ok : OnceOk p (diffs l) s) (sg : List Int → Int) (hsg : ∀ x ∈ s, ∃ k, monzo_Sign.f k p x = some (sg x, 0)) (hs1000 : s.length ≤ 1000) (r : List (List Int)) (hr : r = s.filter fun x => decide (0 < sg x)) :
  CallsIn Fence.wide 5 Tryz.prog 23 #[.slice Ap p.length cp, .int .i64 lim] w fun e w' => ∃ B c', e = .returned (.tuple #[.slice B r.length c', .int .i64 0]) ∧ r.length ≤ c' ∧ Kd.C (Kd.slice 3 (Kd.int .i64)) w' B r.length r ∧ Below w.heap.size w w' := by
 obtain ⟨k0, hk0⟩ := hchk; have HCK := AS (target_checkLimit.calls k0 Ap cp p lim 0 (w.alloc (.cells #[.slice Ap p.length cp] 25)) (Kd.C_below hp ((Below.refl _ w).alloc (Nat.le_refl _) _)) hcp (hG.below ((Below.refl _ w).alloc (Nat.le_refl _) _)) hk0); have HP := AS hp; have HGL := AS hG; have HN := AS hN; have HNS := AS hl; have HSUB := AS hsub; have HOK := AS ok; have HSG := AS hsg; have HRR := AS hr; clear hp hG hN hl hsub ok hsg hk0 hr; refine callsIn_of_wp_marks Tryz.func23 rfl trivial ?_ rfl; simp only [Tryz.ntmps23, List.size_toArray, List.length_cons, List.length_nil, Nat.reduceAdd, Nat.reduceSub, Array.replicate_succ, Array.replicate_zero, List.push_toArray, List.append_toArray, List.nil_append, List.cons_append]
 gi_wp2_with (first | (refine ⟨trivial, ?_⟩; gi_at_call 50; refine (callsIn_wide.2 HCK.out).mono ?_; rintro e w1 ⟨rfl, hd⟩; have hb1 := hd.below; have hbx := (Boxed.new w 25 (.slice Ap p.length cp)).below hb1 (by simp); have hcx := hbx.cell; have hcx2 := (hbx.alloc (.cells #[.slice none 0 0] 27)).cell; have HBX := AS hbx; have HB1 := AS (((Below.refl _ w).alloc (Nat.le_refl _) (.cells #[.slice Ap p.length cp] 25)).trans (hb1.mono (by simp))); have hs1 := hb1.size; simp only [World.size_alloc] at hs1; clear hd hb1 hbx) | (refine ⟨trivial, ?_⟩; gi_at_call 51; refine (smooth_in 4 _ _ _ _ _).mono ?_; rintro e w3 ⟨rfl, rfl⟩))
 simp only [Nat.add_assoc, Nat.reduceAdd]
 obtain ⟨W0, hW0⟩ : ∃ W0, ((w1.alloc (.cells #[.slice none 0 0] 27)).alloc (.cells #[.slice Ap p.length cp] 25)).alloc (.cells #[.int .i64 (lim : Int)] 3) = W0 := ⟨_, rfl⟩
 have hsz : W0.heap.size = w1.heap.size + 3 := by rw [← hW0]; simp
 have hB0 : Below w.heap.size w W0 := by
  rw [← hW0]; exact ((HB1.out.alloc (by omega) _).alloc (by simp; omega) _).alloc (by simp; omega) _
 have hb0 : Boxed W0 w1.heap.size 27 (.slice none 0 0) := by
  rw [← hW0]; exact ((Boxed.new w1 27 _).alloc _).alloc _
 have hb1 : Boxed W0 (w1.heap.size + 1) 25 (.slice Ap p.length cp) := by
  rw [← hW0]; have := Boxed.new (w1.alloc (.cells #[.slice none 0 0] 27)) 25 (.slice Ap p.length cp); rw [World.size_alloc] at this; exact this.alloc _
 have hb2 : Boxed W0 (w1.heap.size + 2) 3 (.int .i64 (lim : Int)) := by
  rw [← hW0]; have := Boxed.new ((w1.alloc (.cells #[.slice none 0 0] 27)).alloc (.cells #[.slice Ap p.length cp] 25)) 3 (.int .i64 (lim : Int)); rw [World.size_alloc, World.size_alloc] at this; exact this
 have hbp : Boxed W0 w.heap.size 25 (.slice Ap p.length cp) := by
  rw [← hW0]; exact ((HBX.out.alloc _).alloc _).alloc _
 rw [hW0]; clear hW0 hcx hcx2; obtain ⟨i0, hi, hzz⟩ := Option.map_eq_some_iff.1 info28_own; simp only [Prod.mk.injEq] at hzz; obtain ⟨hz0, hz1, hz2⟩ := hzz
 refine wpIn_rangeFunc_X (n := 5) rfl (by decide) (gf := 85) (lb := #[.pointer (some ⟨w1.heap.size + 2, 0, none⟩), .pointer (some ⟨w1.heap.size + 1, 0, none⟩)]) rfl trivial (enters_of Tryz.func85 (by kernel_rfl) rfl) (X := fun (x : SmX) W => RA 0 W x.x [x.v])
  (smooth_seq Nf lim (by omega) 4 (by decide) (w1.heap.size + 1) w.heap.size Ap cp p hcp HN.out (by omega) W0 (fun W' h => HGL.out.below (hB0.trans h)) (fun W' h => Kd.C_below HP.out (hB0.trans h)) (by omega) hb2.cell hb1.cell (by omega))
  KeepsB.trans (keepsB_b (by omega) (by omega)) (Below.refl _ _) (fun _ => rfl)
  (fun pre W => Gath w.heap.size w1.heap.size (w1.heap.size + 3) (pre.map SmX.x) W ∧ Boxed W w.heap.size 25 (.slice Ap p.length cp) ∧ Below w.heap.size w W ∧ w1.heap.size + 3 ≤ W.heap.size)
  (OwnFrom.and (gath_own _ _ _ _ (by omega) _) (OwnFrom.and (Own.from (boxed_own _ 25 (fun _ : List SmX => _)) _) (OwnFrom.and (ownFrom_below (Nat.le_refl _) (by omega)) (fun _ _ _ _ hs hg _ => Nat.le_trans hs hg.size))))
  (RA_own _)
  ⟨⟨_, hb0, RowsOf.nil _ _, fun k e => by simp [Value.ownBlock] at e⟩, hbp, hB0, by omega⟩
  (fun z => { tmps := #[.slice Ap p.length cp, .int .i64 (lim : Int), .pointer (some ⟨w.heap.size, 0, none⟩), undef, .slice none 0 0, .int .i64 0, .int .i64 0, .pointer (some ⟨w1.heap.size, 0, none⟩), undef, z.v, undef, undef, .slice Ap p.length cp, .int .i64 (lim : Int), .int .i64 0, .int .i64 0, .bool false, undef, .slice Ap p.length cp, .int .i64 (lim : Int), .func (.func 85) #[] #[.pointer (some ⟨w1.heap.size + 2, 0, none⟩), .pointer (some ⟨w1.heap.size + 1, 0, none⟩)], .int .i64 z.n, z.v, undef, undef, undef, undef, undef, undef, undef, undef, undef, undef, undef, undef, undef, undef, undef, undef, undef, undef, undef, undef, undef], defers := [] }) ?assign ?body ?done
 case assign =>
  intro l x W K hK; simp only [encSm]
  gi_wp2
  exact hK
 case body =>
  rintro l pre ⟨zn, zx, zv, z0, z1⟩ W ⟨⟨v, hv, hrows, hG⟩, hbp, hB, hS⟩ hx hlt; have hcv := hv.cell
  have hol : (pre.map SmX.x).length ≤ 1000 := by rw [List.length_map]; omega
  have hx1 : RA w.heap.size W zx [zv] := RA.lift hx (Nat.zero_le _); obtain ⟨A, c, e, hle, hCx⟩ := RA.open_ hx; have e : zv = .slice A zx.length c := e; subst e; have HRX := AS hx1
  obtain ⟨zl, hzl⟩ : ∃ zl, zl = zx.length := ⟨_, rfl⟩
  have HFR := AS hrows.free; have HLT : Aside0 (∀ g, v.ownBlock = some g → g < W.heap.size) := ⟨fun g hg => (hrows.block g hg).2.1⟩
  have HNE : Aside0 (some w.heap.size ≠ v.ownBlock) := ⟨fun e => by
   obtain ⟨_, _, cells, h3⟩ := hrows.block _ e.symm; have h4 : W.heap[w.heap.size]? = _ := hbp; rw [h3] at h4; injection h4 with h4; injection h4 with _ h4 _
   exact absurd h4 (by decide)⟩
  obtain ⟨inner, hrow, hreps⟩ := hrows; have HREPS := AS hreps; clear hx hx1 hCx hreps
  gi_wp2_with (gi_at_builtin; go_loud (refine wpListIn_append_own_at _ rfl _ _ 27 rfl w.heap.size 28 i0 (.slice none 0 0) 1 24 Tryz.underlying27 hi hz0 hz1 hz2 rfl (by decide) _ _ _ rfl (hrow.alloc _) ⟨W.heap.size, 0, none⟩ 1 1 [.slice A zx.length c] rfl rfl (cell_one_new _ _ _) (by simp [Value.oneCell']) (by unfold maxLen; omega) (by omega) (by have := hB.size; simp; omega) ?_; intro v' w9 hown' hgrow _ hat; obtain ⟨g', cap', rfl⟩ := ownsRow_succ hown'; obtain ⟨hv1, hv2, hr2, hk2, hb5⟩ := hv.appended (by decide) hrow hB.size (by omega) hown' hgrow; have hc9 := hv1.cell; have hf9 := hv1.frozen))
  have hk3 : KeepsB w.heap.size (w1.heap.size + 1) (w1.heap.size + 1 + 2) W (w9.setCell ⟨w1.heap.size, 0, none⟩ (.slice (some ⟨g', 0, none⟩) ((pre.map SmX.x).length + 1) cap')) := ⟨hb5, fun k h1 h2 => by
   rw [Below.heap_setCell _ _ _ _ (show k ≠ w1.heap.size by omega), hgrow.block k (by simp; omega) (fun e => by have := hG k e.symm; omega), Below.heap_alloc _ _ _ (by omega)]⟩
  have hg' : w1.heap.size + 3 ≤ g' := by
   rcases hat with hat | hat
   ·have hat' : some g' = v.ownBlock := hat; exact hG g' hat'.symm
   ·have hat : some g' = some _ := hat; injection hat with hat
    rw [hat]; simp; omega
  have hbp2 : Boxed (w9.setCell ⟨w1.heap.size, 0, none⟩ (.slice (some ⟨g', 0, none⟩) ((pre.map SmX.x).length + 1) cap')) w.heap.size 25 (.slice Ap p.length cp) :=
   Boxed.other ((hbp.alloc _).kept hgrow HNE.out) (by omega) _
  rw [List.length_map] at *; refine ⟨hk2.from _, hk3, ⟨⟨_, hv2, ⟨inner ++ [.slice A zx.length c], by simpa using hr2, ?_⟩, fun k e => ?_⟩, hbp2, hB.trans hb5, by have := hb5.size; omega⟩⟩
  ·rw [List.map_append]; exact (HREPS.out.imp_ fun x cs hr => hr.appended _ hgrow HFR.out HLT.out _ (by omega) hv1 _).snoc (HRX.out.appended _ hgrow HFR.out HLT.out _ (by omega) hv1 _) rfl
  ·have e : some g' = some k := e; injection e with e
   omega
 case done =>
  rintro D ys W hD hys ⟨⟨v, hv, hrows, hG⟩, hbp, hB, hS⟩ hK; have hcv := hv.cell
  have hod : ys.map SmX.x = l := by
   rw [HNS.out, ← hys, List.map_map]; rfl
  rw [hod] at hrows; obtain ⟨A, c, rfl, hcc, hC⟩ := hrows.reads; have HR := AS (show CallsIn Fence.wide 4 Tryz.prog 52 #[.slice Ap p.length cp, .slice A l.length c] W _ from callsIn_wide.2 (between_calls Ap cp p A c l s W (Kd.C_below HP.out hB) hcp hC hcc (HGL.out.below hB) hl20 HSUB.out HOK.out)); have HBP := AS hbp; have hcp2 := hbp.cell; clear hrows hC hod hys hG hbp
  gi_wp2_with (refine ⟨trivial, ?_⟩; gi_at_call 52; refine (HR.out).mono ?_; rintro e X ⟨B, c', rfl, hc', hCX, hbX⟩; have HBX := AS hbX; have HKT := AS (show CallsIn Fence.wide 4 Tryz.prog 53 #[.slice B s.length c', .func (.func 54) #[] #[.pointer (some ⟨w.heap.size, 0, none⟩)]] X _ from callsIn_wide.2 (kept_calls 54 #[.pointer (some ⟨w.heap.size, 0, none⟩)] B c' s (fun x => decide (0 < sg x)) X hCX hc' hs1000 (enters_of Tryz.func54 (by kernel_rfl) rfl) (fun x hx W' B' b' hW' hC' hb' => by
   obtain ⟨q, hq⟩ := HSG.out x hx; have hbw := bst hB HBX.out; have hbw' := bst hbw hW'
   exact int1_calls q Ap cp p B' b' x w.heap.size (sg x) W' (Kd.C_below HP.out hbw') hcp hC' hb' (HGL.out.below hbw') ((HBP.out.below HBX.out (by have := hB.size; omega)).below hW' (by have := HBX.out.size; omega)).cell hq))); rw [← HRR.out] at HKT; clear hbX hCX)
  refine ⟨trivial, HKT.out.mono ?_⟩; rintro e Y ⟨B2, c2, rfl, hc2, hCY, hbY⟩; have HCY := AS hCY; have HBY := AS (bst HBX.out hbY); clear hCY hbY
  gi_wp2
  have hKY := (HBY.out.block D (Array.getElem?_eq_some_iff.1 hK).1).trans hK; refine ⟨by simp, .inl ⟨_, _, rfl, run_takeDeferred hKY, ?_⟩⟩; refine ⟨_, results_tmp2 rfl _ _ _, B2, c2, rfl, hc2, ?_, (bst hB HBY.out).trans (belowK_b (w := w) (Nat.le_refl _) Y D _ (.deferred none) (by have := hB.size; omega) hKY rfl rfl)⟩; exact C_rows_putObj HCY.out hKY rfl
end Go.Proofs.YtkgkihichdcpmaaGreatDoor.H
end
section
namespace Go.Proofs.YtkgkihichdcpmaaGreatDoor.H
open Go.RowKit Go.Shelf Go.Proofs.YtkgkihichdcpmaaGreatDoorW.PrintWords Go.Proofs.YtkgkihichdcpmaaGreatDoorW.PrintLast Go.Proofs.YtkgkihichdcpmaaGreatDoorW.PrintMore
attribute [local go_sem] max2_int min2_int max_two min_two max_three min_three max_four min_four
set_option linter.unusedVariables false
set_option linter.unusedSimpArgs false
structure LesserOk (p : List Int) (l s : List (List Int)) (R O : List Int → List Int) (Z : List Int → Bool) (n : List Int → Int) : Prop where
 red : ∀ x ∈ l, ∃ k q, interval_Reduce.f k p x = some (R x, q, 0)
 zero : ∀ x ∈ l, row_IsZero.f (R x) = some (Z x)
 inv : ∀ x ∈ l, Z x = false → ∃ k, interval_Inverse.f k p x = some (O x, 0)
 cmp : ∀ x ∈ l, Z x = false → ∃ k, monzo_Compare.f k p (R x) (O x) = some (n x, 0)
 once : OnceOk p (l.filterMap (redOf R O Z (fun x => decide (0 < n x)))) s
 len : l.length ≤ 1000
theorem lesser2_calls (Ap : Option Addr) (cp : Nat) (p : List Int) (A : Option Addr) (c : Nat) (l s : List (List Int)) (R O : List Int → List Int) (Z : List Int → Bool) (n : List Int → Int) (w : World)
  (hp : Kd.C (Kd.int .i64) w Ap p.length p) (hcp : p.length ≤ cp) (hr : Kd.C (Kd.slice 3 (Kd.int .i64)) w A l.length l) (hc : l.length ≤ c) (hG : GL w) (ok : LesserOk p l s R O Z n) :
  Calls Tryz.prog 46 #[.slice Ap p.length cp, .slice A l.length c, .func (.func 48) #[] #[]] w fun e w' => ∃ B c', e = .returned (.tuple #[.slice B s.length c', .int .i64 0]) ∧ s.length ≤ c' ∧ Kd.C (Kd.slice 3 (Kd.int .i64)) w' B s.length s ∧ Below w.heap.size w w' :=
 reduced_calls 48 Ap cp p A c l s R O Z (fun x => decide (0 < n x)) w hp hcp hr hc hG ok.len (enters_of Tryz.func48 (by kernel_rfl) rfl) ok.red ok.zero ok.inv
  (fun x hx hz => by obtain ⟨k, hk⟩ := ok.cmp x hx hz; exact lesser_chooses Ap cp p _ _ w k _ hp hcp hG hk) ok.once
set_option maxHeartbeats 4000000 in
set_option maxRecDepth 100000 in
theorem lesser_calls (Ap : Option Addr) (cp : Nat) (p : List Int) (A : Option Addr) (c : Nat) (l s : List (List Int)) (R O : List Int → List Int) (Z : List Int → Bool) (n : List Int → Int) (w : World)
  (hp : Kd.C (Kd.int .i64) w Ap p.length p) (hcp : p.length ≤ cp) (hr : Kd.C (Kd.slice 3 (Kd.int .i64)) w A l.length l) (hc : l.length ≤ c) (hG : GL w) (hchk : ∃ k, target_checkList.f k p l = some 0) (ok : LesserOk p l s R O Z n) :
  Calls Tryz.prog 19 #[.slice Ap p.length cp, .slice A l.length c] w fun e w' => ∃ B c', e = .returned (.tuple #[.slice B s.length c', .int .i64 0]) ∧ s.length ≤ c' ∧ Kd.C (Kd.slice 3 (Kd.int .i64)) w' B s.length s ∧ Below w.heap.size w w' := by
 obtain ⟨k0, hk0⟩ := hchk; have HCK := AS (target_checkList.calls k0 Ap cp p A c l 0 w hp hcp hr hc hG hk0); have HP := AS hp; have HR := AS hr; have HGL := AS hG; have HOK := AS ok; clear hp hr hG ok hk0; go_enter Tryz.func19, Tryz.ntmps19; go_wp2_with (first | (go_at_call 45; refine (HCK.out).mono ?_; rintro e w1 ⟨rfl, hd⟩; have hb1 := hd.below; have HB1 := AS hb1; have HL := AS (lesser2_calls Ap cp p A c l s R O Z n w1 (Kd.C_below HP.out hb1) hcp (Kd.C_below HR.out hb1) hc (HGL.out.below hb1) HOK.out); clear hd hb1) | (go_at_call 46; refine (HL.out).mono ?_; rintro e w2 ⟨B2, c2, rfl, hc2, hC2, hb2⟩; have HC2 := AS hC2; have HB2 := AS (bst HB1.out hb2); clear hC2 hb2)); go_ret2; exact ⟨_, _, rfl, hc2, HC2.out, HB2.out⟩
end Go.Proofs.YtkgkihichdcpmaaGreatDoor.H
end
section
namespace Go.Proofs.YtkgkihichdcpmaaGreatDoor.H
open Go.RowKit Go.Shelf Go.Proofs.YtkgkihichdcpmaaGreatDoorW.PrintWords Go.Proofs.YtkgkihichdcpmaaGreatDoorW.PrintLast Go.Proofs.YtkgkihichdcpmaaGreatDoorW.PrintMore
attribute [local go_sem] max2_int min2_int max_two min_two max_three min_three max_four min_four
set_option linter.unusedVariables false
set_option linter.unusedSimpArgs false
def textB (x : List Int) : Bool := Nat.ble x.length 64 && x.all fitsB && Nat.ble (Lib.join ((x.map itoaB).map (·.data.toList)) (⟨#[32]⟩ : ByteArray).data.toList).length 100000
theorem textB_ok {x : List Int} (h : textB x = true) : TextOk x := by
 unfold textB at h; simp only [Bool.and_eq_true, Nat.ble_eq] at h; exact ⟨h.1.1, h.1.2, h.2⟩
def sgnIJ (i j : Nat) : Int := if i < j then -1 else if j < i then 1 else 0
def cmpB (p : List Int) (s : List (List Int)) : Bool := (List.range s.length).all fun i => (List.range s.length).all fun j => decide (monzo_Compare.f 100 p (s.getD i []) (s.getD j []) = some (sgnIJ i j, 0))
def onceB (p : List Int) (l s : List (List Int)) : Bool := Nat.ble l.length 1000 && l.all textB && (dd l).isPerm s && decide s.Nodup && cmpB p s
theorem onceB_ok {p : List Int} {l s : List (List Int)} (h : onceB p l s = true) : OnceOk p l s := by
 unfold onceB at h; simp only [Bool.and_eq_true, Nat.ble_eq, decide_eq_true_eq] at h; obtain ⟨⟨⟨⟨h1, h2⟩, h3⟩, h4⟩, h5⟩ := h; refine ⟨h1, fun x hx => textB_ok (List.all_eq_true.1 h2 x hx), List.isPerm_iff.1 h3, h4, fun i j => ⟨100, ?_⟩⟩; have h6 := List.all_eq_true.1 h5 i.val (List.mem_range.2 i.isLt); have h7 := List.all_eq_true.1 h6 j.val (List.mem_range.2 j.isLt); exact of_decide_eq_true h7
def RK (p x : List Int) : List Int := match interval_Reduce.f 100 p x with | some r => r.1 | none => []
def QK (p x : List Int) : Int := match interval_Reduce.f 100 p x with | some r => r.2.1 | none => 0
def ZK (p x : List Int) : Bool := match row_IsZero.f (RK p x) with | some z => z | none => false
def OK (p x : List Int) : List Int := match interval_Inverse.f 100 p x with | some r => r.1 | none => []
def NK (p x : List Int) : Int := match monzo_Compare.f 100 p (RK p x) (OK p x) with | some r => r.1 | none => 0
def redB (p x : List Int) : Bool := match interval_Reduce.f 100 p x with | some r => decide (r.2.2 = 0) | none => false
def invB (p x : List Int) : Bool := match interval_Inverse.f 100 p x with | some r => decide (r.2 = 0) | none => false
def leB (p x : List Int) : Bool := match monzo_Compare.f 100 p (RK p x) (OK p x) with | some r => decide (r.2 = 0) | none => false
theorem redB_ok {p x : List Int} (h : redB p x = true) : ∃ k q, interval_Reduce.f k p x = some (RK p x, q, 0) := by
 refine ⟨100, QK p x, ?_⟩; unfold redB at h; unfold RK QK
 cases hr : interval_Reduce.f 100 p x with
 | none => rw [hr] at h; cases h
 | some r =>
  rw [hr] at h; obtain ⟨a, b, c⟩ := r; have : c = 0 := of_decide_eq_true h; rw [this]
theorem invB_ok {p x : List Int} (h : invB p x = true) : ∃ k, interval_Inverse.f k p x = some (OK p x, 0) := by
 refine ⟨100, ?_⟩; unfold invB at h; unfold OK
 cases hr : interval_Inverse.f 100 p x with
 | none => rw [hr] at h; cases h
 | some r =>
  rw [hr] at h; obtain ⟨a, c⟩ := r; have : c = 0 := of_decide_eq_true h; rw [this]
theorem leB_ok {p x : List Int} (h : leB p x = true) : ∃ k, monzo_Compare.f k p (RK p x) (OK p x) = some (NK p x, 0) := by
 refine ⟨100, ?_⟩; unfold leB at h; unfold NK
 cases hr : monzo_Compare.f 100 p (RK p x) (OK p x) with
 | none => rw [hr] at h; cases h
 | some r =>
  rw [hr] at h; obtain ⟨a, c⟩ := r; have : c = 0 := of_decide_eq_true h; rw [this]
theorem zero_ok (p x : List Int) : row_IsZero.f (RK p x) = some (ZK p x) := by unfold ZK row_IsZero.f; rfl
def wholeB (p : List Int) (l s : List (List Int)) : Bool := l.all (redB p) && l.all (fun x => ZK p x || invB p x) && onceB p (l.filterMap (redOf (RK p) (OK p) (ZK p) (fun _ => false))) s && Nat.ble l.length 1000
theorem wholeB_ok {p : List Int} {l s : List (List Int)} (h : wholeB p l s = true) : WholeOk p l s (RK p) (OK p) (ZK p) := by
 unfold wholeB at h; simp only [Bool.and_eq_true, Nat.ble_eq] at h; obtain ⟨⟨⟨h1, h2⟩, h3⟩, h4⟩ := h; refine ⟨fun x hx => redB_ok (List.all_eq_true.1 h1 x hx), fun x _ => zero_ok p x, fun x hx hz => ?_, onceB_ok h3, h4⟩; have := List.all_eq_true.1 h2 x hx; rw [hz, Bool.false_or] at this; exact invB_ok this
def lesserB (p : List Int) (l s : List (List Int)) : Bool := l.all (redB p) && l.all (fun x => ZK p x || invB p x) && l.all (fun x => ZK p x || leB p x) && onceB p (l.filterMap (redOf (RK p) (OK p) (ZK p) (fun x => decide (0 < NK p x)))) s && Nat.ble l.length 1000
theorem lesserB_ok {p : List Int} {l s : List (List Int)} (h : lesserB p l s = true) : LesserOk p l s (RK p) (OK p) (ZK p) (NK p) := by
 unfold lesserB at h; simp only [Bool.and_eq_true, Nat.ble_eq] at h; obtain ⟨⟨⟨⟨h1, h2⟩, h5⟩, h3⟩, h4⟩ := h; refine ⟨fun x hx => redB_ok (List.all_eq_true.1 h1 x hx), fun x _ => zero_ok p x, fun x hx hz => ?_, fun x hx hz => ?_, onceB_ok h3, h4⟩
 ·have := List.all_eq_true.1 h2 x hx; rw [hz, Bool.false_or] at this; exact invB_ok this
 ·have := List.all_eq_true.1 h5 x hx; rw [hz, Bool.false_or] at this; exact leB_ok this
def NfK (p : List Int) (n : Int) : List Int × Bool := match target_number.f 100 p n with | some r => r | none => ([], false)
def subB (l : List (List Int)) : Bool := l.all fun x => l.all fun y => decide (row_Sub.f x y = some (sub x y, 0))
theorem subB_ok {l : List (List Int)} (h : subB l = true) : ∀ x ∈ l, ∀ y ∈ l, row_Sub.f x y = some (sub x y, 0) := fun x hx y hy => of_decide_eq_true (List.all_eq_true.1 (List.all_eq_true.1 h x hx) y hy)
def SK (p x : List Int) : Int := match monzo_Sign.f 100 p x with | some r => r.1 | none => 0
def signB (p x : List Int) : Bool := match monzo_Sign.f 100 p x with | some r => decide (r.2 = 0) | none => false
theorem signB_ok {p x : List Int} (h : signB p x = true) : ∃ k, monzo_Sign.f k p x = some (SK p x, 0) := by
 refine ⟨100, ?_⟩; unfold signB at h; unfold SK
 cases hr : monzo_Sign.f 100 p x with
 | none => rw [hr] at h; cases h
 | some r =>
  rw [hr] at h; obtain ⟨a, c⟩ := r; have : c = 0 := of_decide_eq_true h; rw [this]
def k5 : List Int := [2, 3, 5]
def k7 : List Int := [3, 5, 7]
def kd1 : List (List Int) := [[0, 0, -1], [0, -1, 0], [0, 1, -1], [0, 0, 0], [0, -1, 1], [0, 1, 0], [0, 0, 1]]
def kOdd : List (List Int) := [[1, 1, -1], [-2, 0, 1], [2, -1, 0], [-1, 1, 0], [3, 0, -1], [0, -1, 1]]
def kLess : List (List Int) := [[1, 1, -1], [-2, 0, 1], [2, -1, 0]]
def kn : List Int := [1, 3, 5]
def kRows : List (List Int) := [[0, 0, 0], [0, 1, 0], [0, 0, 1]]
theorem k_num : ∀ i : Int, 1 ≤ i → i ≤ (5 : Nat) → ∃ k, target_number.f k k5 i = some (NfK k5 i) := by
 intro i h1 h2
 have h3 : i = 1 ∨ i = 2 ∨ i = 3 ∨ i = 4 ∨ i = 5 := by omega
 refine ⟨100, ?_⟩
 rcases h3 with rfl | rfl | rfl | rfl | rfl <;> kernel_rfl
theorem k_odd1 : onceB k5 (diffs kRows) kd1 = true := by kernel_rfl
theorem k_odd2 : wholeB k5 kd1 kOdd = true := by kernel_rfl
theorem k_less : lesserB k5 kOdd kLess = true := by kernel_rfl
theorem k_sub : subB kRows = true := by kernel_rfl
theorem k_rows : kn.map (fun n => (NfK k5 n).1) = kRows := by kernel_rfl
theorem k_ns : kn = ((smTo (NfK k5) 5).map (·.1)).filter oddB := by kernel_rfl
def kAll : List (List Int) := [[0, 0, 0], [1, 0, 0], [0, 1, 0], [2, 0, 0], [0, 0, 1]]
def kAllS : List (List Int) := [[0, 0, -1], [-2, 0, 0], [0, -1, 0], [1, 0, -1], [-1, 0, 0], [0, 1, -1], [1, -1, 0], [-2, 1, 0], [2, 0, -1], [0, 0, 0], [-2, 0, 1], [2, -1, 0], [-1, 1, 0], [0, -1, 1], [1, 0, 0], [-1, 0, 1], [0, 1, 0], [2, 0, 0], [0, 0, 1]]
def kInt : List (List Int) := [[-2, 0, 1], [2, -1, 0], [-1, 1, 0], [0, -1, 1], [1, 0, 0], [-1, 0, 1], [0, 1, 0], [2, 0, 0], [0, 0, 1]]
theorem k_all : kAll = (smTo (NfK k5) 5).map (·.2) := by kernel_rfl
theorem k_allsub : subB kAll = true := by kernel_rfl
theorem k_all1 : onceB k5 (diffs kAll) kAllS = true := by kernel_rfl
theorem k_sign : kAllS.all (signB k5) = true := by kernel_rfl
theorem k_int : kInt = kAllS.filter fun x => decide (0 < SK k5 x) := by kernel_rfl
def kDn : List Int := [5, 7]
def kDr : List (List Int) := [[0, 1, 0], [0, 0, 1]]
def kD1 : List (List Int) := [[0, 1, -1], [0, 0, 0], [0, -1, 1]]
def kDia : List (List Int) := [[0, -1, 1], [1, 1, -1]]
theorem k_dnum : ∀ n ∈ kDn, ∃ k, target_number.f k k7 n = some ((NfK k7 n).1, true) := by
 intro n hn
 have h3 : n = 5 ∨ n = 7 := by simpa [kDn] using hn
 refine ⟨100, ?_⟩
 rcases h3 with rfl | rfl <;> kernel_rfl
theorem k_drows : kDn.map (fun n => (NfK k7 n).1) = kDr := by kernel_rfl
theorem k_dsub : subB kDr = true := by kernel_rfl
theorem k_d1 : onceB k7 (diffs kDr) kD1 = true := by kernel_rfl
theorem k_d2 : wholeB k7 kD1 kDia = true := by kernel_rfl
def Gives (f : Nat) (args : Array Value) (w : World) (s : List (List Int)) : Prop :=
 Calls Tryz.prog f args w fun e w' => ∃ B c', e = .returned (.tuple #[.slice B s.length c', .int .i64 0]) ∧ s.length ≤ c' ∧ Kd.C (Kd.slice 3 (Kd.int .i64)) w' B s.length s ∧ Below w.heap.size w w'
theorem known_odd (A : Option Addr) (w : World) (hp : Kd.C (Kd.int .i64) w A 3 k5) (hG : GL w) : Gives 22 #[.slice A 3 3, .int .i64 5] w kOdd :=
 callsIn_wide.1 (odd_walk A 3 k5 5 w hp (by decide) hG ⟨100, by kernel_rfl⟩ ⟨by decide, by decide⟩ (by decide) (NfK k5) k_num kn k_ns kOdd (fun W B c hb hC hc =>
  diamond_calls A 3 k5 B c kn W (Kd.C_below hp hb) (by decide) hC hc (hG.below hb) ⟨100, by kernel_rfl⟩ (by decide) (by decide) (fun n => (NfK k5 n).1)
   (fun n hn => by
    have h3 : n = 1 ∨ n = 3 ∨ n = 5 := by simpa [kn] using hn
    refine ⟨100, ?_⟩
    rcases h3 with rfl | rfl | rfl <;> kernel_rfl) kd1 kOdd (by rw [k_rows]; exact subB_ok k_sub) (by rw [k_rows]; exact onceB_ok k_odd1) _ _ _ (wholeB_ok k_odd2)))
theorem known_less (A : Option Addr) (B : Option Addr) (c : Nat) (w : World) (hp : Kd.C (Kd.int .i64) w A 3 k5) (hr : Kd.C (Kd.slice 3 (Kd.int .i64)) w B 6 kOdd) (hc : 6 ≤ c) (hG : GL w) : Gives 19 #[.slice A 3 3, .slice B 6 c] w kLess :=
 lesser_calls A 3 k5 B c kOdd kLess _ _ _ _ w hp (by decide) hr hc hG ⟨100, by kernel_rfl⟩ (lesserB_ok k_less)
theorem known_int (A : Option Addr) (w : World) (hp : Kd.C (Kd.int .i64) w A 3 k5) (hG : GL w) : Gives 23 #[.slice A 3 3, .int .i64 5] w kInt :=
 callsIn_wide.1 (integer_walk A 3 k5 5 w hp (by decide) hG ⟨100, by kernel_rfl⟩ (by decide) (NfK k5) k_num kAll k_all (by decide) kAllS (subB_ok k_allsub) (onceB_ok k_all1) (SK k5) (fun x hx => signB_ok (List.all_eq_true.1 k_sign x hx)) (by decide) kInt k_int)
theorem known_dia (A : Option Addr) (B : Option Addr) (w : World) (hp : Kd.C (Kd.int .i64) w A 3 k7) (hr : Kd.C (Kd.int .i64) w B 2 kDn) (hG : GL w) : Gives 28 #[.slice A 3 3, .slice B 2 2] w kDia :=
 diamond_calls A 3 k7 B 2 kDn w hp (by decide) hr (by decide) hG ⟨100, by kernel_rfl⟩ (by decide) (by decide) (fun n => (NfK k7 n).1) k_dnum kD1 kDia (by rw [k_drows]; exact subB_ok k_dsub) (by rw [k_drows]; exact onceB_ok k_d1) _ _ _ (wholeB_ok k_d2)
end Go.Proofs.YtkgkihichdcpmaaGreatDoor.H
end
section
namespace Go.Proofs.YtkgkihichdcpmaaGreatDoor.H
open Go.RowKit Go.Shelf Go.Proofs.YtkgkihichdcpmaaGreatDoorW.PrintWords Go.Proofs.YtkgkihichdcpmaaGreatDoorW.PrintLast Go.Proofs.YtkgkihichdcpmaaGreatDoorW.PrintMore
attribute [local go_sem] max2_int min2_int max_two min_two max_three min_three max_four min_four
set_option linter.unusedVariables false
set_option linter.unusedSimpArgs false
theorem C_lit (W : World) (l : List Int) (h : l.length ≤ 1000) : Kd.C (Kd.int .i64) (W.alloc (.cells (l.map (Value.int .i64)).toArray 3)) (some ⟨W.heap.size, 0, none⟩) l.length l := by
 have ho := own_lit W W.heap.size 3 .i64 l (Nat.le_refl _) (by omega); have hR : Kd.R (Kd.int .i64) 3 (W.alloc (.cells (l.map (Value.int .i64)).toArray 3)) W.heap.size (fun _ => True) (.slice (some ⟨W.heap.size, 0, none⟩) l.length l.length) l := Kd.R_of_own ho (fun _ _ => trivial); obtain ⟨A, c, e, _, hC⟩ := Kd.R_reads hR; injection e with e _ _; rw [e]; exact hC
def GivesN (f : Nat) (args : Array Value) (w : World) (n : Nat) (s : List (List Int)) : Prop :=
 Calls Tryz.prog f args w fun e w' => ∃ B c', e = .returned (.tuple #[.slice B n c', .int .i64 0]) ∧ n ≤ c' ∧ Kd.C (Kd.slice 3 (Kd.int .i64)) w' B n s ∧ Below w.heap.size w w'
theorem gN_odd (A : Option Addr) (w : World) (hp : Kd.C (Kd.int .i64) w A 3 k5) (hG : GL w) : GivesN 22 #[.slice A 3 3, .int .i64 5] w 6 kOdd := known_odd A w hp hG
theorem gN_less (A : Option Addr) (B : Option Addr) (c : Nat) (w : World) (hp : Kd.C (Kd.int .i64) w A 3 k5) (hr : Kd.C (Kd.slice 3 (Kd.int .i64)) w B 6 kOdd) (hc : 6 ≤ c) (hG : GL w) : GivesN 19 #[.slice A 3 3, .slice B 6 c] w 3 kLess := known_less A B c w hp hr hc hG
theorem gN_int (A : Option Addr) (w : World) (hp : Kd.C (Kd.int .i64) w A 3 k5) (hG : GL w) : GivesN 23 #[.slice A 3 3, .int .i64 5] w 9 kInt := known_int A w hp hG
theorem gN_dia (A : Option Addr) (B : Option Addr) (w : World) (hp : Kd.C (Kd.int .i64) w A 3 k7) (hr : Kd.C (Kd.int .i64) w B 2 kDn) (hG : GL w) : GivesN 28 #[.slice A 3 3, .slice B 2 2] w 2 kDia := known_dia A B w hp hr hG
theorem eq_lit (x : List Int) (A : Option Addr) (c : Nat) (W : World) (hx : Kd.C (Kd.int .i64) W A x.length x) (hc : x.length ≤ c) (hl : x.length ≤ 1000) (hG : GL W) (h : row_Equal.f 100 x x = some true) :
  Calls Tryz.prog 38 #[.slice A x.length c, .slice (some ⟨W.heap.size, 0, none⟩) x.length x.length] (W.alloc (.cells (x.map (Value.int .i64)).toArray 3)) fun e w' => e = .returned (.bool true) ∧ Below W.heap.size W w' := by
 have hb : Below W.heap.size W (W.alloc (.cells (x.map (Value.int .i64)).toArray 3)) := (Below.refl _ W).alloc (Nat.le_refl _) _; refine (row_Equal.calls 100 A c x (some ⟨W.heap.size, 0, none⟩) x.length x true _ (Kd.C_below hx hb) hc (C_lit W x hl) (Nat.le_refl _) (hG.below hb) h).mono ?_; rintro e w' ⟨rfl, hd⟩; exact ⟨rfl, bst hb hd.below⟩
set_option maxHeartbeats 16000000 in
set_option maxRecDepth 100000 in
theorem known_calls (w : World) (hG : GL w) : Calls Tryz.prog 11 #[] w fun e w' => e = .returned (.bool true) ∧ Below w.heap.size w w' := by
 have hA0 : Below w.heap.size w (w.alloc (.cells #[.int .i64 2, .int .i64 3, .int .i64 5] 3)) := (Below.refl _ w).alloc (Nat.le_refl _) _; have hP0 : Kd.C (Kd.int .i64) (w.alloc (.cells #[.int .i64 2, .int .i64 3, .int .i64 5] 3)) (some ⟨w.heap.size, 0, none⟩) 3 k5 := C_lit w k5 (by decide); have HA0 := AS hA0; have HP0 := AS hP0; have HGL := AS hG; have H22 := AS (gN_odd _ _ hP0 (hG.below hA0)); clear hA0 hP0 hG; go_enter Tryz.func11, Tryz.ntmps11; go_wp2_with fail; refine Calls.mono H22.out ?_; rintro e w1 ⟨B1, c1, rfl, hc1, hC1, hb1⟩; have HB1 := AS (bst HA0.out hb1); have HP1 := AS (Kd.C_below HP0.out hb1); have HC1 := AS hC1; clear hC1 hb1 H22; go_wp2_with fail; refine Calls.mono (gN_less _ B1 c1 w1 HP1.out HC1.out hc1 (HGL.out.below HB1.out)) ?_; rintro e w2 ⟨B2, c2, rfl, hc2, hC2, hb2⟩; have HB2 := AS (bst HB1.out hb2); have HP2 := AS (Kd.C_below HP1.out hb2); have HC21 := AS (Kd.C_below HC1.out hb2); have HC2 := AS hC2; clear hC2 hb2; go_wp2_with fail; refine Calls.mono (gN_int _ w2 HP2.out (HGL.out.below HB2.out)) ?_; rintro e w3 ⟨B3, c3, rfl, hc3, hC3, hb3⟩; have HB3 := AS (bst HB2.out hb3); have HC31 := AS (Kd.C_below HC21.out hb3); have HC32 := AS (Kd.C_below HC2.out hb3); have HC3 := AS hC3; clear hC3 hb3; have hA3 : Below w3.heap.size w3 (w3.alloc (.cells #[.int .i64 3, .int .i64 5, .int .i64 7] 3)) := (Below.refl _ w3).alloc (Nat.le_refl _) _; have hP3 : Kd.C (Kd.int .i64) (w3.alloc (.cells #[.int .i64 3, .int .i64 5, .int .i64 7] 3)) (some ⟨w3.heap.size, 0, none⟩) 3 k7 := C_lit w3 k7 (by decide); have hA4 : Below w3.heap.size w3 ((w3.alloc (.cells #[.int .i64 3, .int .i64 5, .int .i64 7] 3)).alloc (.cells #[.int .i64 5, .int .i64 7] 3)) := hA3.alloc hA3.size _
 have hP4 : Kd.C (Kd.int .i64) ((w3.alloc (.cells #[.int .i64 3, .int .i64 5, .int .i64 7] 3)).alloc (.cells #[.int .i64 5, .int .i64 7] 3)) (some ⟨w3.heap.size + 1, 0, none⟩) 2 kDn := by
  have := C_lit (w3.alloc (.cells #[.int .i64 3, .int .i64 5, .int .i64 7] 3)) kDn (by decide); rw [World.size_alloc] at this; exact this
 have H28 := AS (gN_dia _ _ _ (Kd.C_below hP3 ((Below.refl _ _).alloc (Nat.le_refl _) _)) hP4 (HGL.out.below (bst HB3.out hA4))); have HA4 := AS hA4; clear hA3 hP3 hA4 hP4; go_wp2_with fail; refine Calls.mono H28.out ?_; rintro e w4 ⟨B4, c4, rfl, hc4, hC4, hb4⟩; have hb34 := bst HA4.out hb4; have HB4 := AS (bst HB3.out hb34); obtain ⟨a1, r1, d1, rfl, hcell1, hl1, hR1⟩ := C_rows_at (l := kOdd) (Kd.C_below HC31.out hb34) 0 (by decide)
 have hcell1 : w4.cell? a1 = some (.slice r1 3 d1) := by
  have hadd : a1.add 0 = a1 := by unfold Addr.add; split <;> simp_all
  rw [← hadd]; exact hcell1
 obtain ⟨a2, r2, d2, rfl, hcell2, hl2, hR2⟩ := C_rows_at (l := kLess) (Kd.C_below HC32.out hb34) 2 (by decide); obtain ⟨a3, r3, d3, rfl, hcell3, hl3, hR3⟩ := C_rows_at (l := kInt) (Kd.C_below HC3.out hb34) 8 (by decide); obtain ⟨a4, r4, d4, rfl, hcell4, hl4, hR4⟩ := C_rows_at (l := kDia) hC4 1 (by decide); have HCE2 := AS (show w4.cell? ⟨a2.block, a2.off + 2, none⟩ = some (.slice r2 3 d2) from hcell2); have HCE3 := AS (show w4.cell? ⟨a3.block, a3.off + 8, none⟩ = some (.slice r3 3 d3) from hcell3); have HCE4 := AS (show w4.cell? ⟨a4.block, a4.off + 1, none⟩ = some (.slice r4 3 d4) from hcell4); have HR2 := AS hR2; have HR3 := AS hR3; have HR4 := AS hR4; have HE1 := AS (eq_lit [1, 1, -1] r1 d1 w4 hR1 hl1 (by decide) (HGL.out.below HB4.out) (by kernel_rfl)); have HL2 := AS hl2; have HL3 := AS hl3; have HL4 := AS hl4; clear hC4 hb4 hb34 hcell2 hcell3 hcell4 hR1 hR2 hR3 hR4 hl1 hl2 hl3 hl4 H28; go_wp2_with fail; refine Calls.mono HE1.out ?_; rintro e w5 ⟨rfl, hb5⟩; have HB5 := AS (bst HB4.out hb5); have hcell2 := pcb hb5 HCE2.out; have HCE3 := AS (pcb hb5 HCE3.out); have HCE4 := AS (pcb hb5 HCE4.out); have HR3 := AS (Kd.C_below HR3.out hb5); have HR4 := AS (Kd.C_below HR4.out hb5); have HE2 := AS (eq_lit [2, -1, 0] r2 d2 w5 (Kd.C_below HR2.out hb5) HL2.out (by decide) (HGL.out.below HB5.out) (by kernel_rfl)); clear hb5 hcell1 HE1; go_wp2_with fail; refine Calls.mono HE2.out ?_; rintro e w6 ⟨rfl, hb6⟩; have HB6 := AS (bst HB5.out hb6); have hcell3 := pcb hb6 HCE3.out; have HCE4 := AS (pcb hb6 HCE4.out); have HR4 := AS (Kd.C_below HR4.out hb6); have HE3 := AS (eq_lit [0, 0, 1] r3 d3 w6 (Kd.C_below HR3.out hb6) HL3.out (by decide) (HGL.out.below HB6.out) (by kernel_rfl)); clear hb6 hcell2 HE2; go_wp2_with fail; refine Calls.mono HE3.out ?_; rintro e w7 ⟨rfl, hb7⟩; have HB7 := AS (bst HB6.out hb7); have hcell4 := pcb hb7 HCE4.out; have HE4 := AS (eq_lit [1, 1, -1] r4 d4 w7 (Kd.C_below HR4.out hb7) HL4.out (by decide) (HGL.out.below HB7.out) (by kernel_rfl)); clear hb7 hcell3 HE3; go_wp2_with fail; refine Calls.mono HE4.out ?_; rintro e w8 ⟨rfl, hb8⟩; have HB8 := AS (bst HB7.out hb8); clear hb8 hcell4 HE4; go_wp2; go_ret; exact ⟨rfl, HB8.out⟩
end Go.Proofs.YtkgkihichdcpmaaGreatDoor.H
end
section
namespace Go.Proofs.YtkgkihichdcpmaaGreatDoor.H
open Go.RowKit Go.Shelf Go.Proofs.YtkgkihichdcpmaaGreatDoorW.PrintWords Go.Proofs.YtkgkihichdcpmaaGreatDoorW.PrintLast Go.Proofs.YtkgkihichdcpmaaGreatDoorW.PrintMore
theorem wrap_small {x : Int} (h1 : -9223372036854775808 ≤ x) (h2 : x ≤ 9223372036854775807) : wrap64 x = x := by
 unfold wrap64
 omega
theorem primeCheck_zero {k : Nat} {p : List Int} (h : prCk.f k p = some 0) : p.length ≤ 6 := by
 unfold prCk.f at h
 split at h
 ·cases h
 ·split at h
  ·cases h
  ·omega
theorem checkList_zero {k : Nat} {p : List Int} {l : List (List Int)} (h : mzCA.f k p l = some 0) (ht : prCk.f k p = some 0) (hl : l.length ≤ 600) : target_checkList.f k p l = some 0 := by
 unfold target_checkList.f; rw [ht]; simp only [Option.bind_some, if_true]; rw [if_neg (by omega), h]; rfl
end Go.Proofs.YtkgkihichdcpmaaGreatDoor.H
end
section
namespace Go.Proofs.YtkgkihichdcpmaaGreatDoor.H.Dec
def numP : List Int → List Int → Nat
 | p :: ps, e :: es => (if 0 < e then p.toNat ^ e.toNat else 1) * numP ps es
 | _, _ => 1
def denP : List Int → List Int → Nat
 | p :: ps, e :: es => (if 0 < e then 1 else p.toNat ^ (-e).toNat) * denP ps es
 | _, _ => 1
theorem numP_cons (a e : Int) (p x : List Int) : numP (a :: p) (e :: x) = a.toNat ^ e.toNat * numP p x := by
 simp only [numP]
 split
 ·rfl
 ·rw [show e.toNat = 0 by omega, Nat.pow_zero]
theorem denP_cons (a e : Int) (p x : List Int) : denP (a :: p) (e :: x) = a.toNat ^ (-e).toNat * denP p x := by
 simp only [denP]
 split
 ·rw [show (-e).toNat = 0 by omega, Nat.pow_zero]
 ·rfl
theorem numP_pos : ∀ (p x : List Int), (∀ a ∈ p, 2 ≤ a) → 0 < numP p x
 | [], _, _ => by simp [numP]
 | _ :: _, [], _ => by simp [numP]
 | a :: p, e :: x, h => by
  rw [numP_cons]; have := h a (List.mem_cons_self ..); exact Nat.mul_pos (Nat.pow_pos (by omega)) (numP_pos p x fun b hb => h b (List.mem_cons_of_mem _ hb))
theorem denP_pos : ∀ (p x : List Int), (∀ a ∈ p, 2 ≤ a) → 0 < denP p x
 | [], _, _ => by simp [denP]
 | _ :: _, [], _ => by simp [denP]
 | a :: p, e :: x, h => by
  rw [denP_cons]; have := h a (List.mem_cons_self ..); exact Nat.mul_pos (Nat.pow_pos (by omega)) (denP_pos p x fun b hb => h b (List.mem_cons_of_mem _ hb))
def Cops (p : List Int) : Prop := p.Pairwise fun a b => Nat.Coprime a.toNat b.toNat
theorem cop_numP (a : Nat) : ∀ (p x : List Int), (∀ b ∈ p, Nat.Coprime a b.toNat) → Nat.Coprime a (numP p x)
 | [], _, _ => by simp [numP]
 | _ :: _, [], _ => by simp [numP]
 | b :: p, e :: x, h => by
  rw [numP_cons]; exact Nat.Coprime.mul_right (Nat.Coprime.pow_right _ (h b (List.mem_cons_self ..))) (cop_numP a p x fun c hc => h c (List.mem_cons_of_mem _ hc))
theorem cop_denP (a : Nat) : ∀ (p x : List Int), (∀ b ∈ p, Nat.Coprime a b.toNat) → Nat.Coprime a (denP p x)
 | [], _, _ => by simp [denP]
 | _ :: _, [], _ => by simp [denP]
 | b :: p, e :: x, h => by
  rw [denP_cons]; exact Nat.Coprime.mul_right (Nat.Coprime.pow_right _ (h b (List.mem_cons_self ..))) (cop_denP a p x fun c hc => h c (List.mem_cons_of_mem _ hc))
theorem pow_cop_le {A m n U V : Nat} (hA : 2 ≤ A) (hU : Nat.Coprime A U) (h : A ^ m * U = A ^ n * V) : n ≤ m := by
 rcases Nat.lt_or_ge m n with hlt | hge
 ·exfalso
  have hp : A ^ n = A ^ m * A ^ (n - m) := by rw [← Nat.pow_add]; congr 1; omega
  rw [hp, Nat.mul_assoc] at h; have h2 := Nat.eq_of_mul_eq_mul_left (Nat.pow_pos (n := m) (show 0 < A by omega)) h
  have hd : A ∣ U := by
   rw [h2, show n - m = (n - m - 1) + 1 by omega, Nat.pow_succ, Nat.mul_assoc, Nat.mul_left_comm]; exact Nat.dvd_mul_right _ _
  have := Nat.Coprime.eq_one_of_dvd hU hd
  omega
 ·exact hge
theorem pow_cop {A m n U V : Nat} (hA : 2 ≤ A) (hU : Nat.Coprime A U) (hV : Nat.Coprime A V) (h : A ^ m * U = A ^ n * V) : m = n ∧ U = V := by
 have h1 := pow_cop_le hA hU h; have h2 := pow_cop_le hA hV h.symm
 have e : m = n := by omega
 subst e; exact ⟨rfl, Nat.eq_of_mul_eq_mul_left (Nat.pow_pos (show 0 < A by omega)) h⟩
theorem same_of_eq : ∀ (p x y : List Int), (∀ a ∈ p, 2 ≤ a) → Cops p → x.length = p.length → y.length = p.length → numP p x * denP p y = numP p y * denP p x → x = y
 | [], x, y, _, _, hx, hy, _ => by
  rw [List.eq_nil_of_length_eq_zero hx, List.eq_nil_of_length_eq_zero hy]
 | a :: p, [], _, _, _, hx, _, _ => by simp at hx
 | a :: p, _ :: _, [], _, _, _, hy, _ => by simp at hy
 | a :: p, e :: x, f :: y, h2, hc, hx, hy, h => by
  have ha := h2 a (List.mem_cons_self ..); have hc' := List.pairwise_cons.1 hc; rw [numP_cons, numP_cons, denP_cons, denP_cons] at h
  have h' : a.toNat ^ (e.toNat + (-f).toNat) * (numP p x * denP p y) = a.toNat ^ (f.toNat + (-e).toNat) * (numP p y * denP p x) := by
   rw [Nat.pow_add, Nat.pow_add]
   calc _ = a.toNat ^ e.toNat * numP p x * (a.toNat ^ (-f).toNat * denP p y) := by ac_rfl
    _ = _ := h
    _ = _ := by ac_rfl
  obtain ⟨h3, h4⟩ := pow_cop (by omega) (Nat.Coprime.mul_right (cop_numP _ p x hc'.1) (cop_denP _ p y hc'.1)) (Nat.Coprime.mul_right (cop_numP _ p y hc'.1) (cop_denP _ p x hc'.1)) h'; have h5 := same_of_eq p x y (fun b hb => h2 b (List.mem_cons_of_mem _ hb)) hc'.2 (by simpa using hx) (by simpa using hy) h4; rw [h5, show e = f by omega]
def ltP (p x y : List Int) : Prop := numP p x * denP p y < numP p y * denP p x
theorem ltP_irr (p x : List Int) : ¬ ltP p x x := by unfold ltP; omega
theorem ltP_trans {p x y z : List Int} (hp : ∀ a ∈ p, 2 ≤ a) (h1 : ltP p x y) (h2 : ltP p y z) : ltP p x z := by
 unfold ltP at *; have hx := denP_pos p x hp; have hy := denP_pos p y hp; have hz := denP_pos p z hp; have e1 : numP p x * denP p y * denP p z < numP p y * denP p x * denP p z := Nat.mul_lt_mul_of_pos_right h1 hz; have e2 : numP p y * denP p z * denP p x < numP p z * denP p y * denP p x := Nat.mul_lt_mul_of_pos_right h2 hx
 have e3 : numP p x * denP p z * denP p y < numP p z * denP p x * denP p y := by
  calc _ = numP p x * denP p y * denP p z := by ac_rfl
   _ < _ := e1
   _ = numP p y * denP p z * denP p x := by ac_rfl
   _ < _ := e2
   _ = _ := by ac_rfl
 exact Nat.lt_of_mul_lt_mul_right e3
theorem ltP_asymm {p x y : List Int} (h : ltP p x y) : ¬ ltP p y x := by unfold ltP at *; omega
def cmpP (p x y : List Int) : Int := if numP p x * denP p y < numP p y * denP p x then -1 else if numP p y * denP p x < numP p x * denP p y then 1 else 0
theorem cmpP_lt {p x y : List Int} : cmpP p x y < 0 ↔ ltP p x y := by
 unfold cmpP ltP
 split
 ·simp [*]
 ·split <;> simp [*]
theorem cmpP_gt {p x y : List Int} : 0 < cmpP p x y ↔ ltP p y x := by
 unfold cmpP ltP
 split
 ·simp; omega
 ·split <;> simp [*]
theorem cmpP_self (p x : List Int) : cmpP p x x = 0 := by unfold cmpP; rw [if_neg (by omega), if_neg (by omega)]
theorem cmpP_zero {p x y : List Int} (hp : ∀ a ∈ p, 2 ≤ a) (hc : Cops p) (hx : x.length = p.length) (hy : y.length = p.length) : cmpP p x y = 0 ↔ x = y := by
 constructor
 ·intro h
  apply same_of_eq p x y hp hc hx hy
  unfold cmpP at h
  split at h
  ·simp at h
  ·split at h
   ·simp at h
   ·omega
 ·rintro rfl; exact cmpP_self p x
section Sorted
variable {α : Type} {lt : α → α → Prop}
theorem sorted_unique (irr : ∀ a, ¬ lt a a) (tr : ∀ a b c, lt a b → lt b c → lt a c) : ∀ l m : List α, l.Pairwise lt → m.Pairwise lt → (∀ a, a ∈ l ↔ a ∈ m) → l = m
 | [], [], _, _, _ => rfl
 | [], b :: m, _, _, h => by have := (h b).2 (List.mem_cons_self ..); cases this
 | a :: l, [], _, _, h => by have := (h a).1 (List.mem_cons_self ..); cases this
 | a :: l, b :: m, hl, hm, h => by
  have hl' := List.pairwise_cons.1 hl; have hm' := List.pairwise_cons.1 hm
  have e : a = b := by
   rcases List.mem_cons.1 ((h a).1 (List.mem_cons_self ..)) with h1 | h1
   ·exact h1
   ·rcases List.mem_cons.1 ((h b).2 (List.mem_cons_self ..)) with h2 | h2
    ·exact h2.symm
    ·exact absurd (tr _ _ _ (hl'.1 b h2) (hm'.1 a h1)) (irr a)
  subst e; rw [sorted_unique irr tr l m hl'.2 hm'.2 fun c => ?_]
  constructor
  ·intro hc
   rcases List.mem_cons.1 ((h c).1 (List.mem_cons_of_mem _ hc)) with h1 | h1
   ·subst h1; exact absurd (hl'.1 c hc) (irr c)
   ·exact h1
  ·intro hc
   rcases List.mem_cons.1 ((h c).2 (List.mem_cons_of_mem _ hc)) with h1 | h1
   ·subst h1; exact absurd (hm'.1 c hc) (irr c)
   ·exact h1
theorem sorted_nodup (irr : ∀ a, ¬ lt a a) {l : List α} (h : l.Pairwise lt) : l.Nodup :=
 List.nodup_iff_pairwise_ne.2 (List.Pairwise.imp (fun {a b} (hab : lt a b) (e : a = b) => irr a (by rw [← e] at hab; exact hab)) h)
end Sorted
def insK (c : List Int → Int) (l : List (List Int)) (x : List Int) : Nat → List (List Int)
 | 0 => x :: l
 | k + 1 => if c (l.getD k []) = 0 then l else if c (l.getD k []) < 0 then l.take (k + 1) ++ x :: l.drop (k + 1) else insK c l x k
def insP (p : List Int) (l : List (List Int)) (x : List Int) : List (List Int) := insK (fun y => cmpP p y x) l x l.length
theorem insK_spec {p : List Int} (hp : ∀ a ∈ p, 2 ≤ a) (hc : Cops p) (l : List (List Int)) (x : List Int) (hl : ∀ y ∈ l, y.length = p.length) (hx : x.length = p.length) (hs : l.Pairwise (ltP p)) :
  ∀ k, k ≤ l.length → (∀ y ∈ l.drop k, ltP p x y) → (insK (fun y => cmpP p y x) l x k).Pairwise (ltP p) ∧ ∀ y, y ∈ insK (fun y => cmpP p y x) l x k ↔ y = x ∨ y ∈ l
 | 0, _, hd => by
  rw [List.drop_zero] at hd; exact ⟨List.pairwise_cons.2 ⟨hd, hs⟩, fun y => by simp [insK]⟩
 | k + 1, hk, hd => by
  have hkl : k < l.length := by omega
  have e : l.getD k [] = l[k] := by rw [List.getD_eq_getElem?_getD, List.getElem?_eq_getElem hkl]; rfl
  have hm : l[k] ∈ l := List.getElem_mem hkl; have hst : l.take (k + 1) = l.take k ++ [l[k]] := List.take_succ_eq_append_getElem hkl; have hdr : l.drop k = l[k] :: l.drop (k + 1) := List.drop_eq_getElem_cons hkl; unfold insK; rw [e]
  by_cases h0 : cmpP p l[k] x = 0
  ·rw [if_pos h0]; have := (cmpP_zero hp hc (hl _ hm) hx).1 h0; exact ⟨hs, fun y => ⟨fun h => .inr h, fun h => h.elim (fun h => by rw [h, ← this]; exact hm) id⟩⟩
  ·rw [if_neg h0]
   by_cases h1 : cmpP p l[k] x < 0
   ·rw [if_pos h1]; have h1' := cmpP_lt.1 h1; have hsp := hs; rw [← List.take_append_drop (k + 1) l] at hsp; obtain ⟨ha, hb, hab⟩ := List.pairwise_append.1 hsp
    have hax : ∀ y ∈ l.take (k + 1), ltP p y x := by
     intro y hy; rw [hst] at hy ha
     rcases List.mem_append.1 hy with h | h
     ·exact ltP_trans hp ((List.pairwise_append.1 ha).2.2 y h l[k] (List.mem_singleton.2 rfl)) h1'
     ·rw [List.mem_singleton.1 h]; exact h1'
    refine ⟨List.pairwise_append.2 ⟨ha, List.pairwise_cons.2 ⟨hd, hb⟩, fun a h b hb' => ?_⟩, fun y => ?_⟩
    ·rcases List.mem_cons.1 hb' with rfl | h2
     ·exact hax a h
     ·exact hab a h b h2
    ·constructor
     ·intro h
      rcases List.mem_append.1 h with h | h
      ·exact .inr (List.mem_of_mem_take h)
      ·rcases List.mem_cons.1 h with h | h
       ·exact .inl h
       ·exact .inr (List.mem_of_mem_drop h)
     ·intro h
      rcases h with h | h
      ·rw [h]; exact List.mem_append.2 (.inr (List.mem_cons_self ..))
      ·rw [← List.take_append_drop (k + 1) l] at h
       rcases List.mem_append.1 h with h | h
       ·exact List.mem_append.2 (.inl h)
       ·exact List.mem_append.2 (.inr (List.mem_cons_of_mem _ h))
   ·rw [if_neg h1]; have h2 : ltP p x l[k] := cmpP_gt.1 (by omega)
    refine insK_spec hp hc l x hl hx hs k (by omega) fun y hy => ?_
    rw [hdr] at hy
    rcases List.mem_cons.1 hy with h | h
    ·rw [h]; exact h2
    ·exact hd y h
theorem insP_spec {p : List Int} (hp : ∀ a ∈ p, 2 ≤ a) (hc : Cops p) (l : List (List Int)) (x : List Int) (hl : ∀ y ∈ l, y.length = p.length) (hx : x.length = p.length) (hs : l.Pairwise (ltP p)) :
  (insP p l x).Pairwise (ltP p) ∧ ∀ y, y ∈ insP p l x ↔ y = x ∨ y ∈ l :=
 insK_spec hp hc l x hl hx hs l.length (Nat.le_refl _) fun y hy => by rw [List.drop_length] at hy; cases hy
theorem insK_len (c : List Int → Int) (l : List (List Int)) (x : List Int) : ∀ k, (insK c l x k).length ≤ l.length + 1
 | 0 => by simp [insK]
 | k + 1 => by
  unfold insK
  split
  ·omega
  ·split
   ·simp only [List.length_append, List.length_take, List.length_cons, List.length_drop]; omega
   ·exact insK_len c l x k
def sortP (p : List Int) (l : List (List Int)) : List (List Int) := l.foldl (insP p) []
theorem foldl_insP {p : List Int} (hp : ∀ a ∈ p, 2 ≤ a) (hc : Cops p) : ∀ (l acc : List (List Int)), (∀ y ∈ acc, y.length = p.length) → (∀ y ∈ l, y.length = p.length) → acc.Pairwise (ltP p) →
  (l.foldl (insP p) acc).Pairwise (ltP p) ∧ ∀ y, y ∈ l.foldl (insP p) acc ↔ y ∈ l ∨ y ∈ acc
 | [], acc, _, _, hs => ⟨hs, fun y => by simp⟩
 | x :: l, acc, ha, hl, hs => by
  have hx := hl x (List.mem_cons_self ..); obtain ⟨h1, h2⟩ := insP_spec hp hc acc x ha hx hs; obtain ⟨h3, h4⟩ := foldl_insP hp hc l (insP p acc x) (fun y hy => ((h2 y).1 hy).elim (fun h => by rw [h]; exact hx) (ha y)) (fun y hy => hl y (List.mem_cons_of_mem _ hy)) h1; refine ⟨h3, fun y => ?_⟩; rw [List.foldl_cons, h4 y, h2 y, List.mem_cons]
  constructor
  ·rintro (h | h | h)
   ·exact .inl (.inr h)
   ·exact .inl (.inl h)
   ·exact .inr h
  ·rintro ((h | h) | h)
   ·exact .inr (.inl h)
   ·exact .inl h
   ·exact .inr (.inr h)
theorem sortP_spec {p : List Int} (hp : ∀ a ∈ p, 2 ≤ a) (hc : Cops p) (l : List (List Int)) (hl : ∀ y ∈ l, y.length = p.length) : (sortP p l).Pairwise (ltP p) ∧ ∀ y, y ∈ sortP p l ↔ y ∈ l := by
 obtain ⟨h1, h2⟩ := foldl_insP hp hc l [] (fun _ h => by cases h) hl .nil; exact ⟨h1, fun y => by unfold sortP; rw [h2 y]; simp⟩
theorem sortP_eq {p : List Int} (hp : ∀ a ∈ p, 2 ≤ a) (hc : Cops p) {l m : List (List Int)} (hl : ∀ y ∈ l, y.length = p.length) (hm : m.Pairwise (ltP p)) (h : ∀ y, y ∈ l ↔ y ∈ m) : sortP p l = m := by
 obtain ⟨h1, h2⟩ := sortP_spec hp hc l hl
 exact sorted_unique (ltP_irr p) (fun a b c => ltP_trans hp) _ _ h1 hm fun y => by rw [h2 y, h y]
theorem sortP_congr {p : List Int} (hp : ∀ a ∈ p, 2 ≤ a) (hc : Cops p) {l m : List (List Int)} (hl : ∀ y ∈ l, y.length = p.length) (h : ∀ y, y ∈ l ↔ y ∈ m) : sortP p l = sortP p m := by
 obtain ⟨h1, h2⟩ := sortP_spec hp hc m (fun y hy => hl y ((h y).2 hy))
 exact sortP_eq hp hc hl h1 fun y => by rw [h y, h2 y]
theorem sortP_len (p : List Int) : ∀ (l acc : List (List Int)), (l.foldl (insP p) acc).length ≤ acc.length + l.length
 | [], acc => by simp
 | x :: l, acc => by
  have h1 := sortP_len p l (insP p acc x); have h2 := insK_len (fun y => cmpP p y x) acc x acc.length; rw [List.foldl_cons, List.length_cons]; unfold insP at *
  omega
theorem cmpP_places {p : List Int} {s : List (List Int)} (hs : s.Pairwise (ltP p)) (i j : Fin s.length) : cmpP p (s.getD i.val []) (s.getD j.val []) = if i.val < j.val then -1 else if j.val < i.val then 1 else 0 := by
 have e : ∀ i : Fin s.length, s.getD i.val [] = s[i.val] := fun i => by rw [List.getD_eq_getElem?_getD, List.getElem?_eq_getElem i.isLt]; rfl
 rw [e i, e j]; have hp := List.pairwise_iff_getElem.1 hs
 by_cases h1 : i.val < j.val
 ·rw [if_pos h1]; have := hp i.val j.val i.isLt j.isLt h1; unfold cmpP ltP at *; rw [if_pos this]
 ·rw [if_neg h1]
  by_cases h2 : j.val < i.val
  ·rw [if_pos h2]; have := hp j.val i.val j.isLt i.isLt h2; unfold cmpP ltP at *; rw [if_neg (by omega), if_pos this]
  ·rw [if_neg h2]
   have : i.val = j.val := by omega
   simp only [this, cmpP_self]
theorem perm_of_mem {α : Type} [BEq α] [LawfulBEq α] : ∀ {l m : List α}, l.Nodup → m.Nodup → (∀ a, a ∈ l ↔ a ∈ m) → l.Perm m
 | [], m, _, _, h => by
  cases m with
  | nil => exact .refl _
  | cons b m => have := (h b).2 (List.mem_cons_self ..); cases this
 | a :: l, m, hl, hm, h => by
  have hl' := List.nodup_cons.1 hl; have ha : a ∈ m := (h a).1 (List.mem_cons_self ..); refine (List.Perm.cons a (perm_of_mem hl'.2 (hm.erase a) fun b => ?_)).trans (List.perm_cons_erase ha).symm; rw [hm.mem_erase_iff]
  constructor
  ·intro hb; exact ⟨fun e => hl'.1 (by rw [← e]; exact hb), (h b).1 (List.mem_cons_of_mem _ hb)⟩
  ·rintro ⟨hne, hb⟩
   rcases List.mem_cons.1 ((h b).2 hb) with e | e
   ·exact absurd e hne
   ·exact e
end Go.Proofs.YtkgkihichdcpmaaGreatDoor.H.Dec
end
section
namespace Go.Proofs.YtkgkihichdcpmaaGreatDoor.H
open Go.RowKit Go.Shelf Go.Proofs.YtkgkihichdcpmaaGreatDoorW.PrintWords Go.Proofs.YtkgkihichdcpmaaGreatDoorW.PrintLast Go.Proofs.YtkgkihichdcpmaaGreatDoorW.PrintMore
namespace Dec
def val : List Int → Int
 | [] => 0
 | x :: l => x + 1000000000 * val l
def Pieces (l : List Int) : Prop := ∀ x ∈ l, 0 ≤ x ∧ x < 1000000000
def mulAdd (a : Int) : Int → List Int → List Int → List Int
 | c, [], _ :: ys => c :: ys
 | _, [], [] => []
 | c, b :: bs, y :: ys => ((c + y + a * b) % 1000000000) :: mulAdd a ((c + y + a * b) / 1000000000) bs ys
 | _, _ :: _, [] => []
theorem mulAdd_length (a : Int) : ∀ (bs : List Int) (c : Int) (ys : List Int), (mulAdd a c bs ys).length = ys.length
 | [], _, [] => rfl
 | [], _, _ :: _ => rfl
 | _ :: _, _, [] => rfl
 | b :: bs, c, y :: ys => by simp [mulAdd, mulAdd_length a bs]
theorem mul_bound {a b : Int} (ha : 0 ≤ a ∧ a < 1000000000) (hb : 0 ≤ b ∧ b < 1000000000) : 0 ≤ a * b ∧ a * b ≤ 999999998000000001 := by
 refine ⟨Int.mul_nonneg ha.1 hb.1, ?_⟩; have h1 : a * b ≤ 999999999 * b := Int.mul_le_mul_of_nonneg_right (by omega) hb.1
 omega
theorem mulAdd_spec (a : Int) (ha : 0 ≤ a ∧ a < 1000000000) : ∀ (bs ys : List Int) (c : Int), Pieces bs → Pieces ys → 0 ≤ c → c < 1000000000 → bs.length < ys.length → ys.getD bs.length 0 = 0 →
  val (mulAdd a c bs ys) = a * val bs + c + val ys ∧ Pieces (mulAdd a c bs ys)
 | [], [], c, _, _, _, _, h, _ => absurd h (by simp)
 | [], y :: ys, c, _, hy, h1, h2, _, h0 => by
  have : y = 0 := by simpa using h0
  subst this; refine ⟨by simp [mulAdd, val], fun x hx => ?_⟩
  rcases List.mem_cons.1 hx with rfl | hx
  ·exact ⟨h1, h2⟩
  ·exact hy x (List.mem_cons_of_mem _ hx)
 | b :: bs, [], c, _, _, _, _, h, _ => absurd h (by simp)
 | b :: bs, y :: ys, c, hb, hy, h1, h2, hl, h0 => by
  have hb0 := hb b (List.mem_cons_self ..); have hy0 := hy y (List.mem_cons_self ..); have hm := mul_bound ha hb0
  obtain ⟨t, ht⟩ : ∃ t, t = c + y + a * b := ⟨_, rfl⟩
  have ih := mulAdd_spec a ha bs ys (t / 1000000000) (fun x hx => hb x (List.mem_cons_of_mem _ hx)) (fun x hx => hy x (List.mem_cons_of_mem _ hx)) (by omega) (by omega) (by simpa using hl) (by simpa using h0); simp only [mulAdd, val, ← ht]; refine ⟨?_, fun x hx => ?_⟩
  ·rw [ih.1]
   have e1 : a * (b + 1000000000 * val bs) = a * b + 1000000000 * (a * val bs) := by
    rw [Int.mul_add, Int.mul_left_comm]
   rw [e1]
   omega
  ·rcases List.mem_cons.1 hx with rfl | hx
   ·omega
   ·exact ih.2 x hx
def mulRows (bs : List Int) : List Int → List Int → List Int
 | [], out => out
 | a :: as', out => match mulAdd a 0 bs out with
  | [] => []
  | h :: t => h :: mulRows bs as' t
theorem val_replicate (n : Nat) : val (List.replicate n 0) = 0 := by
 induction n with
 | zero => rfl
 | succ n ih => simp [List.replicate_succ, val, ih]
theorem mulAdd_tail (a : Int) : ∀ (bs : List Int) (c : Int) (ys : List Int) (j : Nat), bs.length < j → (mulAdd a c bs ys).getD j 0 = ys.getD j 0
 | [], c, [], j, h => rfl
 | [], c, y :: ys, j, h => by
  obtain ⟨j', rfl⟩ : ∃ j', j = j' + 1 := ⟨j - 1, by simp at h; omega⟩
  simp [mulAdd]
 | b :: bs, c, [], j, h => rfl
 | b :: bs, c, y :: ys, j, h => by
  obtain ⟨j', rfl⟩ : ∃ j', j = j' + 1 := ⟨j - 1, by simp at h; omega⟩
  have := mulAdd_tail a bs ((c + y + a * b) / 1000000000) ys j' (by simpa using h)
  simpa [mulAdd] using this
theorem mulRows_spec (bs : List Int) (hb : Pieces bs) : ∀ (as' out : List Int), Pieces as' → Pieces out → as'.length + bs.length ≤ out.length → (∀ j, bs.length ≤ j → out.getD j 0 = 0) →
  val (mulRows bs as' out) = val as' * val bs + val out ∧ Pieces (mulRows bs as' out) ∧ (mulRows bs as' out).length = out.length
 | [], out, _, ho, _, _ => by simp [mulRows, val, ho]
 | a :: as', out, ha, ho, hl, h0 => by
  have ha0 := ha a (List.mem_cons_self ..); have hs := mulAdd_spec a ha0 bs out 0 hb ho (by omega) (by omega) (by simp at hl; omega) (h0 _ (Nat.le_refl _)); have hlen := mulAdd_length a bs 0 out; have ht := mulAdd_tail a bs 0 out; unfold mulRows
  cases hm : mulAdd a 0 bs out with
  | nil =>
   rw [hm] at hlen; simp at hl hlen
   omega
  | cons h t =>
   rw [hm] at hs hlen ht
   have ih := mulRows_spec bs hb as' t (fun x hx => ha x (List.mem_cons_of_mem _ hx)) (fun x hx => hs.2 x (List.mem_cons_of_mem _ hx)) (by simp at hl hlen; omega) (fun j hj => by
    have h1 := ht (j + 1) (by omega); rw [h0 (j + 1) (by omega)] at h1
    simpa using h1)
   simp only [val] at hs ⊢; refine ⟨?_, fun x hx => ?_, by simp at hlen; simp [ih.2.2]; omega⟩
   ·rw [ih.1]
    have e1 : (a + 1000000000 * val as') * val bs = a * val bs + 1000000000 * (val as' * val bs) := by rw [Int.add_mul, Int.mul_assoc]
    rw [e1]; have := hs.1
    omega
   ·rcases List.mem_cons.1 hx with rfl | hx
    ·exact hs.2 x (List.mem_cons_self ..)
    ·exact ih.2.1 x hx
def trimL (l : List Int) : List Int := (l.reverse.dropWhile (· == 0)).reverse
theorem trimL_snoc (l : List Int) (x : Int) : trimL (l ++ [x]) = if x = 0 then trimL l else l ++ [x] := by
 unfold trimL; rw [List.reverse_append, List.reverse_singleton, List.singleton_append, List.dropWhile_cons]
 by_cases h : x = 0
 ·subst h; simp
 ·simp [h]
theorem wrap_add {i j : Nat} (h : i + j < 1000000000000000) : wrap64 ((i : Int) + (j : Int)) = ((i + j : Nat) : Int) := by unfold wrap64; omega
theorem wrap_succ {i : Nat} (h : i < 1000000000000000) : wrap64 ((i : Int) + 1) = ((i + 1 : Nat) : Int) := by unfold wrap64; omega
theorem wrap_pred {n : Nat} (h : n < 1000000000000000) : wrap64 (((n + 1 : Nat) : Int) - 1) = (n : Int) := by unfold wrap64; omega
theorem trim_l0 : ∀ (n : Nat) (l : List Int), l.length = n → n ≤ 1000000000 → ∀ k, n + 1 ≤ k → dptr.l0 k l = some (trimL l)
 | 0, l, hl, _, k, hk => by
  obtain ⟨k', rfl⟩ : ∃ k', k = k' + 1 := ⟨k - 1, by omega⟩
  have : l = [] := List.eq_nil_of_length_eq_zero hl; subst this; unfold dptr.l0; simp [trimL]
 | n + 1, l, hl, hn, k, hk => by
  obtain ⟨k', rfl⟩ : ∃ k', k = k' + 1 := ⟨k - 1, by omega⟩
  have hne : l ≠ [] := by intro e; rw [e] at hl; simp at hl
  obtain ⟨l', x, rfl⟩ : ∃ l' x, l = l' ++ [x] := ⟨l.dropLast, l.getLast hne, (List.dropLast_concat_getLast hne).symm⟩
  have hl' : l'.length = n := by simpa using hl
  have hw : wrap64 (((l' ++ [x]).length : Int) - 1) = (n : Int) := by
   rw [hl]; exact wrap_pred (by omega)
  unfold dptr.l0; rw [hw, if_pos (by rw [hl]; omega), if_pos (by omega), if_pos (by rw [hl]; omega)]
  have hr : rd (l' ++ [x]) (n : Int) = x := by
   unfold rd; rw [Int.toNat_natCast, List.getD_eq_getElem?_getD, List.getElem?_append_right (by omega), hl', Nat.sub_self]; rfl
  rw [hr, trimL_snoc]
  by_cases hx : x = 0
  ·rw [if_pos hx, if_pos hx, if_pos (by rw [hl]; omega), Int.toNat_natCast]; rw [show (l' ++ [x]).take n = l' by rw [← hl']; exact List.take_left]; exact trim_l0 n l' hl' (by omega) k' (by omega)
  ·rw [if_neg hx, if_neg hx]
theorem u64_small {x : Int} (h1 : 0 ≤ x) (h2 : x < 18446744073709551616) : IntKind.u64.wrap x = x := by
 simp [IntKind.wrap, IntKind.bits, IntKind.signed]
 omega
theorem wrap_nat {n : Nat} (h : n < 1000000000000000) : wrap64 (n : Int) = (n : Int) := by unfold wrap64; omega
theorem rd_nat (l : List Int) (n : Nat) (h : n < l.length) : rd l (n : Int) = l[n] := by
 unfold rd; rw [Int.toNat_natCast, List.getD_eq_getElem?_getD, List.getElem?_eq_getElem h]; rfl
set_option maxHeartbeats 2000000 in
theorem times_l1 (b p : List Int) (hb : Pieces b) (i : Nat) (a : Int) (ha : 0 ≤ a ∧ a < 1000000000) : ∀ (m j : Nat) (out : List Int) (c : Int), b.length - j = m → j ≤ b.length → Pieces out → 0 ≤ c → c < 1000000000 → i + b.length < out.length → out.length ≤ 1000000000 →
  ∀ k, dptm.l1 (k + m + 1) b out i a c p p.length i b b.length j = dptm.l0 k b (out.take (i + j) ++ mulAdd a c (b.drop j) (out.drop (i + j))) p p.length ((i + 1 : Nat) : Int)
 | m, j, out, c, hm, hj, ho, h1, h2, hl, hs, k => by
  have e3 : i + b.length < 1000000000000000 := by omega
  have e4 : i < 1000000000000000 := by omega
  by_cases h : j < b.length
  ·obtain ⟨m', rfl⟩ : ∃ m', m = m' + 1 := ⟨m - 1, by omega⟩
   have e1 : i + j < 1000000000000000 := by omega
   have e2 : j < 1000000000000000 := by omega
   have hij : i + j < out.length := by omega
   have hb0 := hb b[j] (List.getElem_mem h); have hy0 := ho out[i + j] (List.getElem_mem hij); have hmb := mul_bound ha hb0
   obtain ⟨t, ht⟩ : ∃ t, t = c + out[i + j] + a * b[j] := ⟨_, rfl⟩
   have hu : IntKind.u64.wrap (c + IntKind.u64.wrap (out[i + j] + IntKind.u64.wrap (a * b[j]))) = t := by
    rw [u64_small hmb.1 (by omega), u64_small (x := out[i + j] + a * b[j]) (by omega) (by omega), u64_small (by omega) (by omega), ht]
    omega
   have hrb : rd b (j : Int) = b[j] := rd_nat b j h; have hro : rd out ((i + j : Nat) : Int) = out[i + j] := rd_nat out (i + j) hij
   have hd : IntKind.u64.wrap (Int.tdiv t 1000000000) = t / 1000000000 := by
    rw [Int.tdiv_eq_ediv_of_nonneg (by omega), u64_small (by omega) (by omega)]
   have hmd : Int.tmod t 1000000000 = t % 1000000000 := Int.tmod_eq_emod_of_nonneg (by omega)
   have ih := times_l1 b p hb i a ha m' (j + 1) (out.set (i + j) (t % 1000000000)) (t / 1000000000) (by omega) (by omega) (fun x hx => by
    rcases List.mem_or_eq_of_mem_set hx with hx | rfl
    ·exact ho x hx
    ·omega) (by omega) (by omega) (by simpa using hl) (by simpa using hs) k
   unfold dptm.l1; rw [if_pos (by omega), if_pos (by omega), if_pos (by omega), wrap_add e1, if_pos (by omega), if_pos (by omega), hrb, hro, hu, hd, hmd, Int.toNat_natCast, wrap_succ e2]; rw [show k + (m' + 1) = k + m' + 1 by omega, ih]
   congr 1
   rw [List.drop_eq_getElem_cons h, List.drop_eq_getElem_cons hij]; simp only [mulAdd]; rw [← ht, show i + (j + 1) = i + j + 1 by omega, List.drop_set_of_lt (by omega), List.take_succ_eq_append_getElem (by simpa using hij), List.take_set_of_le (Nat.le_refl _)]; simp
  ·obtain rfl : m = 0 := by omega
   have hjb : j = b.length := by omega
   subst hjb; unfold dptm.l1; rw [if_neg (by omega), wrap_add e3, if_pos (by omega), if_pos (by omega), Int.toNat_natCast, wrap_succ e4]
   show dptm.l0 k _ _ _ _ _ = _
   congr 1
   rw [List.drop_length, List.drop_eq_getElem_cons hl]; simp only [mulAdd]; rw [List.set_eq_take_append_cons_drop, if_pos hl]
set_option maxHeartbeats 2000000 in
theorem times_l0 (b p : List Int) (hb : Pieces b) (hp : Pieces p) : ∀ (m i : Nat) (out : List Int), p.length - i = m → i ≤ p.length → Pieces out → p.length + b.length ≤ out.length → out.length ≤ 1000000000 → (∀ j, i + b.length ≤ j → out.getD j 0 = 0) →
  ∀ k, m * (b.length + 2) + out.length + 3 ≤ k → dptm.l0 k b out p p.length (i : Int) = some (trimL (out.take i ++ mulRows b (p.drop i) (out.drop i)))
 | m, i, out, hm, hi, ho, hl, hs, h0, k, hk => by
  obtain ⟨k', rfl⟩ : ∃ k', k = k' + 1 := ⟨k - 1, by omega⟩
  unfold dptm.l0
  by_cases h : i < p.length
  ·obtain ⟨m', rfl⟩ : ∃ m', m = m' + 1 := ⟨m - 1, by omega⟩
   rw [if_pos (by omega), if_pos (by omega), if_pos (by omega), rd_nat p i h]
   have hmm : (m' + 1) * (b.length + 2) = m' * (b.length + 2) + b.length + 2 := by rw [Nat.add_mul, Nat.one_mul]; omega
   obtain ⟨k2, hk2⟩ : ∃ k2, k' = k2 + b.length + 1 := ⟨k' - b.length - 1, by omega⟩
   have ha := hp p[i] (List.getElem_mem h); have h1 := times_l1 b p hb i p[i] ha b.length 0 out 0 (by omega) (by omega) ho (by omega) (by omega) (by omega) hs k2; simp only [Nat.add_zero, List.drop_zero] at h1; rw [hk2]; refine Eq.trans h1 ?_
   have hpo : Pieces (out.drop i) := fun x hx => ho x (List.mem_of_mem_drop hx)
   have hsp := mulAdd_spec p[i] ha b (out.drop i) 0 hb hpo (by omega) (by omega) (by rw [List.length_drop]; omega) (by rw [List.getD_eq_getElem?_getD, List.getElem?_drop, ← List.getD_eq_getElem?_getD]; exact h0 _ (Nat.le_refl _)); have hlen := mulAdd_length p[i] b 0 (out.drop i); have htl := mulAdd_tail p[i] b 0 (out.drop i)
   have hlo : (out.take i ++ mulAdd p[i] 0 b (out.drop i)).length = out.length := by rw [List.length_append, hlen, List.length_take, List.length_drop]; omega
   have hit : (out.take i).length = i := by rw [List.length_take]; omega
   have ih := times_l0 b p hb hp m' (i + 1) (out.take i ++ mulAdd p[i] 0 b (out.drop i)) (by omega) (by omega) (fun x hx => by
    rcases List.mem_append.1 hx with hx | hx
    ·exact ho x (List.mem_of_mem_take hx)
    ·exact hsp.2 x hx) (by rw [hlo]; exact hl) (by rw [hlo]; exact hs) (fun j hj => by
    rw [List.getD_eq_getElem?_getD, List.getElem?_append_right (by omega), ← List.getD_eq_getElem?_getD, hit, htl _ (by omega)]; rw [List.getD_eq_getElem?_getD, List.getElem?_drop, ← List.getD_eq_getElem?_getD]
    exact h0 _ (by omega)) k2 (by rw [hlo]; omega)
   refine Eq.trans ih ?_
   congr 2
   rw [List.drop_eq_getElem_cons h]
   cases hma : mulAdd p[i] 0 b (out.drop i) with
   | nil =>
    rw [hma] at hlen; simp at hlen
    omega
   | cons x t =>
    simp only [mulRows, hma]; rw [List.take_append, List.drop_append, hit, show i + 1 - i = 1 by omega]; rw [List.take_of_length_le (by omega), List.drop_of_length_le (l := List.take i out) (by omega)]; simp
  ·obtain rfl : m = 0 := by omega
   have hip : i = p.length := by omega
   rw [if_neg (by omega)]
   have hl2 : (out.take i ++ mulRows b (p.drop i) (out.drop i)) = out := by
    rw [hip, List.drop_length]; simp [mulRows]
   rw [hl2]; unfold dptr.f; rw [trim_l0 out.length out rfl hs k' (by omega)]; rfl
theorem val_append (l m : List Int) : val (l ++ m) = val l + (1000000000 : Int) ^ l.length * val m := by
 induction l with
 | nil => simp [val]
 | cons x l ih =>
  simp only [List.cons_append, val, ih, List.length_cons, Int.pow_succ]; rw [Int.mul_add, Int.mul_comm ((1000000000 : Int) ^ l.length) 1000000000, Int.mul_assoc]
  omega
theorem trim_exists : ∀ (n : Nat) (l : List Int), l.length = n → val (trimL l) = val l ∧ (∀ x ∈ trimL l, x ∈ l) ∧ (trimL l = [] ∨ ∃ l' x, trimL l = l' ++ [x] ∧ x ≠ 0)
 | 0, l, hl => by
  have : l = [] := List.eq_nil_of_length_eq_zero hl; subst this; exact ⟨rfl, fun x hx => hx, .inl rfl⟩
 | n + 1, l, hl => by
  have hne : l ≠ [] := by intro e; rw [e] at hl; simp at hl
  obtain ⟨l', x, rfl⟩ : ∃ l' x, l = l' ++ [x] := ⟨l.dropLast, l.getLast hne, (List.dropLast_concat_getLast hne).symm⟩
  rw [trimL_snoc]
  by_cases hx : x = 0
  ·rw [if_pos hx]; obtain ⟨h1, h2, h3⟩ := trim_exists n l' (by simpa using hl); refine ⟨?_, fun y hy => List.mem_append.2 (.inl (h2 y hy)), h3⟩; rw [h1, val_append]; simp [val, hx]
  ·rw [if_neg hx]; exact ⟨rfl, fun y hy => hy, .inr ⟨l', x, rfl, hx⟩⟩
def pcs (n : Nat) : List Int := if h : n = 0 then [] else ((n % 1000000000 : Nat) : Int) :: pcs (n / 1000000000)
termination_by n
decreasing_by omega
theorem pcs_zero : pcs 0 = [] := by unfold pcs; rfl
theorem pcs_pos {n : Nat} (h : n ≠ 0) : pcs n = ((n % 1000000000 : Nat) : Int) :: pcs (n / 1000000000) := by
 rw [pcs, dif_neg h]
theorem val_nonneg : ∀ (l : List Int), Pieces l → 0 ≤ val l
 | [], _ => by simp [val]
 | x :: l, h => by
  have h1 := h x (List.mem_cons_self ..); have h2 := val_nonneg l (fun y hy => h y (List.mem_cons_of_mem _ hy)); simp only [val]
  omega
theorem canon : ∀ (l : List Int), Pieces l → (l = [] ∨ ∃ l' x, l = l' ++ [x] ∧ x ≠ 0) → l = pcs (val l).toNat ∧ (l ≠ [] → 0 < val l)
 | [], _, _ => by simp [val, pcs_zero]
 | x :: l, h, h2 => by
  have h1 := h x (List.mem_cons_self ..)
  have hp : Pieces l := fun y hy => h y (List.mem_cons_of_mem _ hy)
  have hv := val_nonneg l hp
  have hl : l = [] ∨ ∃ l' y, l = l' ++ [y] ∧ y ≠ 0 := by
   rcases h2 with h2 | ⟨l', y, e, hy⟩
   ·cases h2
   ·cases l' with
    | nil =>
     simp at e; exact .inl e.2
    | cons z l'' =>
     simp at e; exact .inr ⟨l'', y, e.2, hy⟩
  have ih := canon l hp hl
  have hpos : 0 < val (x :: l) := by
   simp only [val]
   by_cases hn : l = []
   ·subst hn
    rcases h2 with h2 | ⟨l', y, e, hy⟩
    ·cases h2
    ·have : l' = [] := by cases l' with
      | nil => rfl
      | cons z l'' => simp at e
     subst this; simp at e; subst e; simp [val]
     omega
   ·have := ih.2 hn
    omega
  refine ⟨?_, fun _ => hpos⟩; rw [pcs_pos (by omega)]; simp only [val] at hpos ⊢
  have e1 : (x + 1000000000 * val l).toNat % 1000000000 = x.toNat := by omega
  have e2 : (x + 1000000000 * val l).toNat / 1000000000 = (val l).toNat := by omega
  rw [e1, e2, ← ih.1, Int.toNat_of_nonneg h1.1]
theorem pcs_pieces (n : Nat) : Pieces (pcs n) ∧ val (pcs n) = n := by
 induction n using Nat.strongRecOn with
 | _ n ih =>
  by_cases h : n = 0
  ·subst h; rw [pcs_zero]; exact ⟨fun x hx => (by cases hx), rfl⟩
  ·have h2 := ih (n / 1000000000) (by omega); rw [pcs_pos h]; refine ⟨fun x hx => ?_, ?_⟩
   ·rcases List.mem_cons.1 hx with rfl | hx
    ·omega
    ·exact h2.1 x hx
   ·simp only [val]; rw [h2.2]
    omega
theorem trim_pcs (l : List Int) (hp : Pieces l) : trimL l = pcs (val l).toNat := by
 obtain ⟨h1, h2, h3⟩ := trim_exists l.length l rfl; have := (canon (trimL l) (fun x hx => hp x (h2 x hx)) h3).1; rw [h1] at this; exact this
theorem times_spec (a b : Nat) (ha : (pcs a).length ≤ 100000) (hb : (pcs b).length ≤ 100000) : ∀ k, (pcs a).length * ((pcs b).length + 2) + (pcs a).length + (pcs b).length + 3 ≤ k → dptm.f k (pcs a) (pcs b) = some (pcs (a * b)) := by
 intro k hk; have h1 := pcs_pieces a; have h2 := pcs_pieces b
 have hpr : Pieces (List.replicate ((pcs a).length + (pcs b).length) 0) := fun x hx => by
  have := List.eq_of_mem_replicate hx
  omega
 have hg : ∀ j, (List.replicate ((pcs a).length + (pcs b).length) (0 : Int)).getD j 0 = 0 := fun j => by
  rw [List.getD_eq_getElem?_getD, List.getElem?_replicate]
  split <;> rfl
 have h3 := times_l0 (pcs b) (pcs a) h2.1 h1.1 (pcs a).length 0 (List.replicate ((pcs a).length + (pcs b).length) 0) (by omega) (by omega) hpr (by simp) (by simp; omega) (fun j _ => hg j) k (by simp; omega); have h4 := mulRows_spec (pcs b) h2.1 (pcs a) (List.replicate ((pcs a).length + (pcs b).length) 0) h1.1 hpr (by simp) (fun j _ => hg j)
 have e : (pcs a).length + (pcs b).length < 1000000000000000 := by omega
 unfold dptm.f; rw [wrap_add e, if_pos (by omega), Int.toNat_natCast, if_pos (by omega)]; refine Eq.trans h3 ?_; rw [List.take_zero, List.nil_append, List.drop_zero, List.drop_zero, trim_pcs _ h4.2.1, h4.1, val_replicate, h1.2, h2.2]
 congr 2
end Dec
end Go.Proofs.YtkgkihichdcpmaaGreatDoor.H
end
section
namespace Go.Proofs.YtkgkihichdcpmaaGreatDoor.H
open Go.RowKit Go.Shelf Go.Proofs.YtkgkihichdcpmaaGreatDoorW.PrintWords Go.Proofs.YtkgkihichdcpmaaGreatDoorW.PrintLast Go.Proofs.YtkgkihichdcpmaaGreatDoorW.PrintMore
namespace Dec
def dec (n : Nat) : ByteArray := ⟨(Lib.decDigits n).toArray⟩
theorem digits_step (n : Nat) (h : 10 ≤ n) : Lib.decDigits n = Lib.decDigits (n / 10) ++ [UInt8.ofNat (48 + n % 10)] := by
 rw [Lib.decDigits, dif_neg (by omega)]
theorem digits_one (n : Nat) (h : n < 10) : Lib.decDigits n = [UInt8.ofNat (48 + n)] := Lib.decDigits_one h
theorem digit_toNat {d : Nat} (h : d < 10) : (UInt8.ofNat (48 + d)).toNat = 48 + d := by
 simp
 omega
theorem digits_range (n : Nat) : ∀ c ∈ Lib.decDigits n, 48 ≤ c.toNat ∧ c.toNat ≤ 57 := by
 induction n using Nat.strongRecOn with
 | _ n ih =>
  intro c hc
  by_cases h : n < 10
  ·rw [digits_one n h] at hc; rw [List.mem_singleton.1 hc, digit_toNat h]
   omega
  ·rw [digits_step n (by omega)] at hc
   rcases List.mem_append.1 hc with hc | hc
   ·exact ih (n / 10) (by omega) c hc
   ·rw [List.mem_singleton.1 hc, digit_toNat (by omega)]
    omega
theorem dec_size (n : Nat) : (dec n).size = (Lib.decDigits n).length := by
 show Array.size _ = _
 simp
theorem dec_dig (n : Nat) : allDig (dec n) = true := by
 unfold allDig dec; rw [List.all_eq_true]; intro c hc; have := digits_range n c (by simpa using hc); simp [this]
def dval (l : List UInt8) : Nat := l.foldl (fun a c => 10 * a + (c.toNat - 48)) 0
theorem dval_snoc (l : List UInt8) (c : UInt8) : dval (l ++ [c]) = 10 * dval l + (c.toNat - 48) := by unfold dval; rw [List.foldl_append]; rfl
theorem dval_digits (n : Nat) : dval (Lib.decDigits n) = n := by
 induction n using Nat.strongRecOn with
 | _ n ih =>
  by_cases h : n < 10
  ·rw [digits_one n h]
   show 10 * 0 + ((UInt8.ofNat (48 + n)).toNat - 48) = n
   rw [digit_toNat h]
   omega
  ·rw [digits_step n (by omega), dval_snoc, ih _ (by omega), digit_toNat (by omega)]
   omega
theorem bt_dec (s : ByteArray) (i : Nat) (h : i < s.size) : bt s (i : Int) = ((s.data.toList.getD i 0).toNat : Int) := bt_list s i h
theorem pieceVal_dval (s : ByteArray) (hd : allDig s = true) : ∀ j, j ≤ s.size → pieceVal s 0 j = (dval (s.data.toList.take j) : Int)
 | 0, _ => rfl
 | j + 1, h => by
  have hl : j < s.data.toList.length := by simpa using (show j < s.size by omega)
  simp only [pieceVal]; rw [pieceVal_dval s hd j (by omega), Nat.zero_add, bt_dec s j (by omega), List.take_succ_eq_append_getElem hl, dval_snoc, List.getD_eq_getElem?_getD, List.getElem?_eq_getElem hl]; have := (allDig_iff s).mp hd j (by omega); rw [bt_dec s j (by omega), List.getD_eq_getElem?_getD, List.getElem?_eq_getElem hl] at this; simp only [Option.getD_some] at this ⊢
  omega
theorem pieceVal_add (s : ByteArray) (lo i : Nat) : ∀ j, pieceVal s lo (i + j) = pieceVal s lo i * (10 : Int) ^ j + pieceVal s (lo + i) j
 | 0 => by simp [pieceVal]
 | j + 1 => by
  rw [← Nat.add_assoc]; simp only [pieceVal]; rw [pieceVal_add s lo i j, Int.pow_succ, Nat.add_assoc]; rw [Int.mul_add, ← Int.mul_assoc (pieceVal s lo i), Int.mul_comm (pieceVal s lo i * (10 : Int) ^ j) 10]
  omega
theorem cut_val (s : ByteArray) (e : Nat) : val (cutList s e e) = pieceVal s 0 e := by
 induction e using Nat.strongRecOn with
 | _ e ih =>
  by_cases h : e = 0
  ·subst h; rfl
  ·rw [cutList_step s e (by omega)]; simp only [val]; rw [ih (e - 9) (by omega)]
   by_cases h9 : e < 9
   ·rw [show e - 9 = 0 by omega]; simp [pieceVal]
   ·have := pieceVal_add s 0 (e - 9) 9; rw [show e - 9 + 9 = e by omega] at this; rw [this, Nat.zero_add, show e - (e - 9) = 9 by omega]
    have e9 : (10 : Int) ^ 9 = 1000000000 := by decide
    rw [e9]
    omega
theorem cut_pieces (s : ByteArray) (hd : allDig s = true) (e : Nat) (he : e ≤ s.size) : Pieces (cutList s e e) := by
 induction e using Nat.strongRecOn with
 | _ e ih =>
  by_cases h : e = 0
  ·subst h; intro x hx; cases hx
  ·rw [cutList_step s e (by omega)]; intro x hx
   rcases List.mem_cons.1 hx with rfl | hx
   ·have := pieceVal_le9 s hd (e - 9) (e - (e - 9)) (by omega) (by omega)
    omega
   ·exact ih (e - 9) (by omega) (by omega) x hx
theorem cut_dec (n : Nat) (h : (dec n).size ≤ 1000000) : decu.f (dec n) = some (pcs n) := by
 have hd := dec_dig n; unfold decu.f; rw [if_pos ⟨h, hd⟩]; unfold dptr.f; have hl := cutList_len (dec n) (dec n).size (dec n).size; rw [trim_l0 _ _ rfl (by omega) 2000000 (by omega), trim_pcs _ (cut_pieces (dec n) hd _ (Nat.le_refl _)), cut_val, pieceVal_dval (dec n) hd _ (Nat.le_refl _)]
 have : (dec n).data.toList.take (dec n).size = Lib.decDigits n := by
  rw [dec_size]; unfold dec; simp
 rw [this, dval_digits, Int.toNat_natCast]
def le (n : Nat) : List Int := if h : n = 0 then [] else ((48 + n % 10 : Nat) : Int) :: le (n / 10)
termination_by n
decreasing_by omega
theorem le_zero : le 0 = [] := by unfold le; rfl
theorem le_pos {n : Nat} (h : n ≠ 0) : le n = ((48 + n % 10 : Nat) : Int) :: le (n / 10) := by rw [le, dif_neg h]
theorem le_digits (n : Nat) (h : n ≠ 0) : (le n).reverse.map (fun x => UInt8.ofNat x.toNat) = Lib.decDigits n := by
 induction n using Nat.strongRecOn with
 | _ n ih =>
  rw [le_pos h]
  by_cases h10 : n < 10
  ·rw [show n / 10 = 0 by omega, le_zero, digits_one n h10, show n % 10 = n by omega]
   show [UInt8.ofNat (((48 + n : Nat) : Int)).toNat] = [UInt8.ofNat (48 + n)]
   rw [Int.toNat_natCast]
  ·rw [List.reverse_cons, List.map_append, ih (n / 10) (by omega) (by omega), digits_step n (by omega)]
   congr 1
theorem emit_all (f : Nat) : ∀ (n : Nat), emitDigs false f (n : Int) = (List.range f).map fun i => ((48 + n / 10 ^ i % 10 : Nat) : Int) := by
 induction f with
 | zero => intro n; rfl
 | succ f ih =>
  intro n; simp only [emitDigs, Bool.false_eq_true, false_and, if_false]; rw [show ((n : Int) / 10) = ((n / 10 : Nat) : Int) by omega, ih (n / 10), List.range_succ_eq_map, List.map_cons, List.map_map]
  congr 1
  ·simp
  ·apply List.map_congr_left
   intro i _; simp only [Function.comp]; rw [Nat.pow_succ, Nat.mul_comm, Nat.div_div_eq_div_mul]
theorem emit_last (f : Nat) : ∀ (n : Nat), n < 10 ^ f → emitDigs true f (n : Int) = le n := by
 induction f with
 | zero =>
  intro n h
  obtain rfl : n = 0 := by simpa using h
  rw [le_zero]; rfl
 | succ f ih =>
  intro n h; simp only [emitDigs]
  by_cases h0 : n = 0
  ·subst h0; rw [if_pos ⟨trivial, by omega⟩, le_zero]
  ·rw [if_neg (fun e => by have := e.2; omega), le_pos h0, show ((n : Int) / 10) = ((n / 10 : Nat) : Int) by omega, ih (n / 10) (by rw [Nat.pow_succ] at h; omega)]
   congr 1
theorem le_split (f : Nat) : ∀ (n m : Nat), n < 10 ^ f → m ≠ 0 → le (n + 10 ^ f * m) = (List.range f).map (fun i => ((48 + n / 10 ^ i % 10 : Nat) : Int)) ++ le m := by
 induction f with
 | zero =>
  intro n m h _
  obtain rfl : n = 0 := by simpa using h
  simp
 | succ f ih =>
  intro n m h hm; have hp : 0 < 10 ^ f * m := Nat.mul_pos (Nat.pow_pos (by omega)) (by omega)
  have e : n + 10 ^ (f + 1) * m = n + 10 * (10 ^ f * m) := by rw [Nat.pow_succ, Nat.mul_comm (10 ^ f) 10, Nat.mul_assoc]
  rw [e, le_pos (by omega), show (n + 10 * (10 ^ f * m)) % 10 = n % 10 by omega, show (n + 10 * (10 ^ f * m)) / 10 = n / 10 + 10 ^ f * m by omega, ih (n / 10) m (by rw [Nat.pow_succ] at h; omega) hm]; rw [List.range_succ_eq_map, List.map_cons, List.map_map, List.cons_append]
  congr 1
  ·simp
  ·congr 1
   apply List.map_congr_left
   intro i _; simp only [Function.comp]; rw [Nat.pow_succ, Nat.mul_comm, Nat.div_div_eq_div_mul]
theorem text_le (len : Nat) : ∀ (k n i : Nat), (pcs n).length = k → n ≠ 0 → i + k = len → textFrom len i (pcs n) = le n
 | 0, n, i, hk, hn, hi => by
  rw [pcs_pos hn] at hk; simp at hk
 | k + 1, n, i, hk, hn, hi => by
  rw [pcs_pos hn] at hk ⊢
  have hk' : (pcs (n / 1000000000)).length = k := by simpa using hk
  simp only [textFrom]
  by_cases h0 : n / 1000000000 = 0
  ·rw [h0, pcs_zero] at hk' ⊢
   have hk0 : k = 0 := by simpa using hk'.symm
   rw [show decide (i + 1 = len) = true from decide_eq_true (by omega)]; simp only [textFrom, List.append_nil]; rw [emit_last 9 (n % 1000000000) (by omega), show n % 1000000000 = n by omega]
  ·have hk1 : k ≠ 0 := fun e => by
    rw [e] at hk'; rw [pcs_pos h0] at hk'; simp at hk'
   rw [show decide (i + 1 = len) = false from decide_eq_false (by omega), emit_all, text_le len k (n / 1000000000) (i + 1) hk' h0 (by omega)]; have := le_split 9 (n % 1000000000) (n / 1000000000) (by omega) h0; rw [show n % 1000000000 + 10 ^ 9 * (n / 1000000000) = n by omega] at this; exact this.symm
theorem le_length (n : Nat) (h : n ≠ 0) : (le n).length = (Lib.decDigits n).length := by
 rw [← le_digits n h, List.length_map, List.length_reverse]
theorem wrap_at {x : Int} {n : Nat} (h : x = n) (hn : n < 1000000000000000) : wrap64 x = n := by subst h; exact wrap_nat hn
theorem reverse_l0 : ∀ (m : Nat) (A M C : List Int), A.length = C.length → M.length = m → A.length + m + C.length ≤ 1000000000 → ∀ (x3 : Int), x3 = (A.length : Int) + m - 1 → ∀ k, m + 1 ≤ k →
  slrv.l0 k (A ++ M ++ C) (A.length : Int) x3 = some (A ++ M.reverse ++ C)
 | 0, A, M, C, hA, hM, hs, x3, hx, k, hk => by
  obtain ⟨k', rfl⟩ : ∃ k', k = k' + 1 := ⟨k - 1, by omega⟩
  have : M = [] := List.eq_nil_of_length_eq_zero hM; subst this; unfold slrv.l0; rw [if_neg (by omega)]; rfl
 | 1, A, M, C, hA, hM, hs, x3, hx, k, hk => by
  obtain ⟨k', rfl⟩ : ∃ k', k = k' + 1 := ⟨k - 1, by omega⟩
  obtain ⟨y, rfl⟩ : ∃ y, M = [y] := by
   cases M with
   | nil => cases hM
   | cons y M => cases M with
    | nil => exact ⟨y, rfl⟩
    | cons z M => simp at hM
  unfold slrv.l0; rw [if_neg (by omega)]; rfl
 | m + 2, A, M, C, hA, hM, hs, x3, hx, k, hk => by
  obtain ⟨k', rfl⟩ : ∃ k', k = k' + 1 := ⟨k - 1, by omega⟩
  obtain ⟨x, M', y, rfl⟩ : ∃ x M' y, M = x :: M' ++ [y] := by
   cases M with
   | nil => cases hM
   | cons x M =>
    have hne : M ≠ [] := by intro e; rw [e] at hM; simp at hM
    exact ⟨x, M.dropLast, M.getLast hne, by rw [List.cons_append, List.dropLast_concat_getLast hne]⟩
  have hm : M'.length = m := by simp at hM; omega
  have hx' : x3 = ((A.length + m + 1 : Nat) : Int) := by omega
  subst hx'
  have hl : (A ++ (x :: M' ++ [y]) ++ C).length = A.length + m + 2 + C.length := by simp; omega
  have e1 : rd (A ++ (x :: M' ++ [y]) ++ C) ((A.length + m + 1 : Nat) : Int) = y := by
   unfold rd; rw [Int.toNat_natCast, List.getD_eq_getElem?_getD, show A ++ (x :: M' ++ [y]) ++ C = (A ++ x :: M') ++ (y :: C) by simp, List.getElem?_append_right (by simp; omega), show A.length + m + 1 - (A ++ x :: M').length = 0 by simp; omega]; rfl
  have e2 : rd (A ++ (x :: M' ++ [y]) ++ C) (A.length : Int) = x := by
   unfold rd; rw [Int.toNat_natCast, List.getD_eq_getElem?_getD, List.append_assoc, List.getElem?_append_right (by omega), Nat.sub_self]; rfl
  have e3 : ((A ++ (x :: M' ++ [y]) ++ C).set A.length y).set (A.length + m + 1) x = (A ++ [y]) ++ M' ++ (x :: C) := by
   rw [List.append_assoc, List.set_append_right _ _ (by omega), Nat.sub_self]; simp only [List.cons_append, List.set_cons_zero]; rw [show A ++ y :: (M' ++ [y] ++ C) = (A ++ y :: M') ++ (y :: C) by simp, List.set_append_right _ _ (by simp; omega), show A.length + m + 1 - (A ++ y :: M').length = 0 by simp; omega]; simp
  unfold slrv.l0; rw [e1, e2, if_pos (by omega), if_pos (by omega), if_pos (by rw [hl]; omega), if_pos (by omega), if_pos (by rw [hl]; omega), Int.toNat_natCast, Int.toNat_natCast, e3]; rw [wrap_at (x := (A.length : Int) + 1) (n := (A ++ [y]).length) (by simp) (by simp; omega), wrap_at (x := ((A.length + m + 1 : Nat) : Int) - 1) (n := A.length + m) (by omega) (by omega)]; rw [reverse_l0 m (A ++ [y]) M' (x :: C) (by simp; omega) hm (by simp; omega) _ (by simp; omega) k' (by omega)]; simp
theorem reverse_spec (l : List Int) (h : l.length ≤ 1000000) : slrv.f 2000000 l = some l.reverse := by
 unfold slrv.f
 by_cases h0 : l = []
 ·subst h0; unfold slrv.l0; rw [if_neg (by unfold wrap64; simp)]; rfl
 ·have hp := List.length_pos_iff.2 h0; rw [wrap_at (x := (l.length : Int) - 1) (n := l.length - 1) (by omega) (by omega)]; have := reverse_l0 l.length [] l [] rfl rfl (by simp; omega) ((l.length - 1 : Nat) : Int) (by simp; omega) 2000000 (by omega)
  simpa using this
theorem text_pcs (n : Nat) (h : (Lib.decDigits n).length ≤ 1000000) (h2 : (pcs n).length ≤ 100000) : dptx.f (pcs n) = some (dec n) := by
 unfold dptx.f
 by_cases h0 : n = 0
 ·subst h0; rw [pcs_zero, if_pos rfl]
  congr 1
  unfold strOfNums dec; rw [digits_one 0 (by omega)]; rfl
 ·have hne : pcs n ≠ [] := by rw [pcs_pos h0]; simp
  have hu : u64s (pcs n) = true := by
   unfold u64s; rw [List.all_eq_true]; intro x hx; have := (pcs_pieces n).1 x hx; simp
   omega
  rw [if_neg hne, if_pos ⟨h2, hu⟩, text_le _ (pcs n).length n 0 rfl h0 (by omega), reverse_spec _ (by rw [le_length n h0]; exact h)]; simp only [Option.bind_some]
  congr 1
  unfold strOfNums dec; rw [le_digits n h0]
end Dec
end Go.Proofs.YtkgkihichdcpmaaGreatDoor.H
end
section
namespace Go.Proofs.YtkgkihichdcpmaaGreatDoor.H
open Go.RowKit Go.Shelf Go.Proofs.YtkgkihichdcpmaaGreatDoorW.PrintWords Go.Proofs.YtkgkihichdcpmaaGreatDoorW.PrintLast Go.Proofs.YtkgkihichdcpmaaGreatDoorW.PrintMore
namespace Dec
theorem digits_pos (n : Nat) : 0 < (Lib.decDigits n).length := by
 by_cases h : n < 10
 ·rw [digits_one n h]; simp
 ·rw [digits_step n (by omega)]; simp
theorem digits_lt (n : Nat) : n < 10 ^ (Lib.decDigits n).length := by
 induction n using Nat.strongRecOn with
 | _ n ih =>
  by_cases h : n < 10
  ·rw [digits_one n h]
   simpa using h
  ·rw [digits_step n (by omega), List.length_append, List.length_singleton, Nat.pow_succ]; have := ih (n / 10) (by omega)
   omega
theorem digits_ge (n : Nat) (h : n ≠ 0) : 10 ^ ((Lib.decDigits n).length - 1) ≤ n := by
 induction n using Nat.strongRecOn with
 | _ n ih =>
  by_cases h10 : n < 10
  ·rw [digits_one n h10]; simp
   omega
  ·have h1 := ih (n / 10) (by omega) (by omega); have h2 := digits_pos (n / 10); rw [digits_step n (by omega), List.length_append, List.length_singleton]
   obtain ⟨d, hd⟩ : ∃ d, (Lib.decDigits (n / 10)).length = d + 1 := ⟨(Lib.decDigits (n / 10)).length - 1, by omega⟩
   rw [hd] at h1 ⊢; simp only [Nat.add_sub_cancel] at h1 ⊢; rw [Nat.pow_succ]
   omega
theorem digits_le_of_lt {n d : Nat} (h : n < 10 ^ d) (hd : 1 ≤ d) : (Lib.decDigits n).length ≤ d := by
 by_cases h0 : n = 0
 ·subst h0; rw [digits_one 0 (by omega)]
  simpa using hd
 ·have h1 := digits_ge n h0; have h2 := Nat.lt_of_le_of_lt h1 h; have := (Nat.pow_lt_pow_iff_right (by omega : 1 < 10)).1 h2
  omega
theorem digits_mul (a b : Nat) : (Lib.decDigits (a * b)).length ≤ (Lib.decDigits a).length + (Lib.decDigits b).length := by
 refine digits_le_of_lt ?_ (by have := digits_pos a; omega); rw [Nat.pow_add]; have ha := digits_lt a; have hb := digits_lt b
 by_cases h0 : b = 0
 ·subst h0; have := Nat.mul_pos (Nat.lt_of_le_of_lt (Nat.zero_le _) ha) (Nat.lt_of_le_of_lt (Nat.zero_le _) hb)
  simpa using this
 ·calc a * b < 10 ^ (Lib.decDigits a).length * b := Nat.mul_lt_mul_of_pos_right ha (by omega)
   _ ≤ _ := Nat.mul_le_mul_left _ (Nat.le_of_lt hb)
theorem pcs_len (n : Nat) : (pcs n).length ≤ (Lib.decDigits n).length := by
 induction n using Nat.strongRecOn with
 | _ n ih =>
  by_cases h0 : n = 0
  ·subst h0; rw [pcs_zero]; simp
  ·rw [pcs_pos h0, List.length_cons]
   by_cases h1 : n / 1000000000 = 0
   ·rw [h1, pcs_zero]; have := digits_pos n; simp
    omega
   ·have h2 := ih (n / 1000000000) (by omega)
    have h3 : (Lib.decDigits (n / 1000000000)).length + 1 ≤ (Lib.decDigits n).length := by
     have h4 := digits_ge (n / 1000000000) h1; have h5 := digits_lt n
     have h6 : 10 ^ ((Lib.decDigits (n / 1000000000)).length - 1 + 9) ≤ n := by
      rw [Nat.pow_add]
      have : 10 ^ ((Lib.decDigits (n / 1000000000)).length - 1) * 1000000000 ≤ n := by omega
      simpa using this
     have := (Nat.pow_lt_pow_iff_right (by omega : 1 < 10)).1 (Nat.lt_of_le_of_lt h6 h5)
     omega
    omega
theorem fold_ge (l : List UInt8) : ∀ a : Nat, a ≤ l.foldl (fun a c => 10 * a + (c.toNat - 48)) a := by
 induction l with
 | nil => intro a; exact Nat.le_refl _
 | cons c l ih =>
  intro a; have := ih (10 * a + (c.toNat - 48)); simp only [List.foldl_cons]
  omega
theorem parseM (l : List UInt8) : ∀ a : Nat, (∀ c ∈ l, 48 ≤ c.toNat ∧ c.toNat ≤ 57) → l.foldl (fun a c => 10 * a + (c.toNat - 48)) a < 1000000000000000000 →
  Lib.parseUintM (2 ^ 64 - 1) a l = .ok (l.foldl (fun a c => 10 * a + (c.toNat - 48)) a) := by
 induction l with
 | nil => intro a _ _; rfl
 | cons c l ih =>
  intro a hc hb; have h1 := hc c (List.mem_cons_self ..); have h2 := fold_ge l (10 * a + (c.toNat - 48)); simp only [List.foldl_cons] at hb ⊢; unfold Lib.parseUintM; rw [if_pos h1, if_neg (by omega), if_neg (by omega), show a * 10 + (c.toNat - 48) = 10 * a + (c.toNat - 48) by omega]; exact ih _ (fun x hx => hc x (List.mem_cons_of_mem _ hx)) hb
theorem small_dec (n : Nat) (h : n < 1000000000000000000) : decimal_Small.f (dec n) = some ((n : Int), true) := by
 have hl : (Lib.decDigits n).length ≤ 18 := digits_le_of_lt (d := 18) (by simpa using h) (by omega); unfold decimal_Small.f parseUOk; rw [if_pos (by rw [dec_size]; omega)]
 have hd : (dec n).data.toList = Lib.decDigits n := by unfold dec; simp
 have hv := dval_digits n; unfold dval at hv; rw [hd]; unfold Lib.parseUintB
 have hne : Lib.decDigits n ≠ [] := fun e => by have := digits_pos n; rw [e] at this; simp at this
 rw [if_neg hne, parseM _ 0 (digits_range n) (by rw [hv]; exact h), hv]; rfl
theorem of_dec (n : Nat) (h : n < 18446744073709551616) : decimal_Of.f (n : Int) = some (dec n) := by
 unfold decimal_Of.f strconv_FormatUint.f; rw [if_pos ⟨rfl, by omega, by omega⟩, Int.toNat_natCast]; rfl
theorem lt18 {n : Nat} (h : (Lib.decDigits n).length ≤ 18) : n < 1000000000000000000 := by
 have h1 := digits_lt n; have h2 := Nat.pow_le_pow_right (n := 10) (by omega) h; exact Nat.lt_of_lt_of_le h1 h2
theorem both_dec (k a b : Nat) (ha : (Lib.decDigits a).length ≤ 18) (hb : (Lib.decDigits b).length ≤ 18) : debo.f (k + 1) (dec a) (dec b) = some ((a : Int), (b : Int), true) := by
 unfold debo.f; rw [if_neg (by rw [dec_size]; omega), show decide (((dec b).size : Int) > 18) = false from decide_eq_false (by rw [dec_size]; omega)]
 show (if false = true then some (0, 0, false) else ((decimal_Small.f (dec a)).bind fun bt196 => ((decimal_Small.f (dec b)).bind fun bt198 => (some (bt196.1, bt198.1, true))))) = _
 rw [if_neg (by simp), small_dec a (lt18 ha), small_dec b (lt18 hb)]; rfl
theorem mul_short (k a b : Nat) (h : (Lib.decDigits a).length + (Lib.decDigits b).length ≤ 18) : deMu.f (k + 1) (dec a) (dec b) = some (dec (a * b)) := by
 have hm := digits_mul a b; have hab := lt18 (show (Lib.decDigits (a * b)).length ≤ 18 by omega); have hbo := both_dec k a b (by omega) (by omega)
 have hu : IntKind.u64.wrap ((a : Int) * (b : Int)) = ((a * b : Nat) : Int) := by
  rw [show ((a : Int) * (b : Int)) = ((a * b : Nat) : Int) by simp]; exact u64_small (Int.natCast_nonneg _) (by omega)
 have ho := of_dec (a * b) (by omega); unfold deMu.f; rw [dec_size, dec_size, wrap_add (by omega), if_pos (by omega), hbo]; simp only [Option.bind_some]; rw [hu, ho]; rfl
theorem mul_long0 (k : Nat) (x y z : ByteArray) (p q r : List Int) (n m : Nat) (hx : x.size = n) (hy : y.size = m) (hs : ¬ n + m ≤ 18) (hb : n + m < 1000000000000000) (h1 : decu.f x = some p) (h2 : decu.f y = some q) (h3 : dptm.f k p q = some r) (h4 : dptx.f r = some z) : deMu.f k x y = some z := by
 unfold deMu.f; rw [hx, hy, wrap_add hb, if_neg (by omega), h1, h2, Option.bind_some, Option.bind_some, h3, Option.bind_some, h4, Option.bind_some]
theorem mul_long (k a b : Nat) (h : (Lib.decDigits a).length + (Lib.decDigits b).length ≤ 100000) (hs : ¬ (Lib.decDigits a).length + (Lib.decDigits b).length ≤ 18) (hk : (pcs a).length * ((pcs b).length + 2) + (pcs a).length + (pcs b).length + 3 ≤ k) : deMu.f k (dec a) (dec b) = some (dec (a * b)) := by
 have ha : (pcs a).length ≤ 100000 := Nat.le_trans (pcs_len a) (Nat.le_trans (Nat.le_add_right _ _) h); have hb : (pcs b).length ≤ 100000 := Nat.le_trans (pcs_len b) (Nat.le_trans (Nat.le_add_left _ _) h); have hm : (Lib.decDigits (a * b)).length ≤ 100000 := Nat.le_trans (digits_mul a b) h
 have h6 : ∀ n, (Lib.decDigits n).length ≤ 100000 → (dec n).size ≤ 1000000 := fun n hn => by rw [dec_size]; omega
 exact mul_long0 k (dec a) (dec b) (dec (a * b)) (pcs a) (pcs b) (pcs (a * b)) _ _ (dec_size a) (dec_size b) hs (Nat.lt_of_le_of_lt h (by decide)) (cut_dec a (h6 a (Nat.le_trans (Nat.le_add_right _ _) h))) (cut_dec b (h6 b (Nat.le_trans (Nat.le_add_left _ _) h)))
  (times_spec a b ha hb k hk) (text_pcs (a * b) (Nat.le_trans hm (by decide)) (Nat.le_trans (pcs_len _) hm))
theorem mul_dec (a b : Nat) (h : (Lib.decDigits a).length + (Lib.decDigits b).length ≤ 100000) (k : Nat) (hk : (pcs a).length * ((pcs b).length + 2) + (pcs a).length + (pcs b).length + 3 ≤ k) : deMu.f k (dec a) (dec b) = some (dec (a * b)) := by
 by_cases hs : (Lib.decDigits a).length + (Lib.decDigits b).length ≤ 18
 ·cases k with
  | zero => omega
  | succ k => exact mul_short k a b hs
 ·exact mul_long k a b h hs hk
theorem less_digits : ∀ (n : Nat) (l m : List UInt8), l.length = n → m.length = n → (∀ c ∈ l, 48 ≤ c.toNat ∧ c.toNat ≤ 57) → (∀ c ∈ m, 48 ≤ c.toNat ∧ c.toNat ≤ 57) → ∀ a b : Nat,
  (a < b → l.foldl (fun a c => 10 * a + (c.toNat - 48)) a < m.foldl (fun a c => 10 * a + (c.toNat - 48)) b) ∧
  Op.bytesLess l m = decide (l.foldl (fun a c => 10 * a + (c.toNat - 48)) 0 < m.foldl (fun a c => 10 * a + (c.toNat - 48)) 0) ∧
  (a = b → Op.bytesLess l m = decide (l.foldl (fun a c => 10 * a + (c.toNat - 48)) a < m.foldl (fun a c => 10 * a + (c.toNat - 48)) b))
 | 0, l, m, hl, hm, _, _ => fun a b => by
  have h1 : l = [] := List.eq_nil_of_length_eq_zero hl; have h2 : m = [] := List.eq_nil_of_length_eq_zero hm; subst h1 h2; refine ⟨fun h => h, by simp [Op.bytesLess], fun h => by subst h; simp [Op.bytesLess]⟩
 | n + 1, [], _, hl, _, _, _ => by simp at hl
 | n + 1, _, [], _, hm, _, _ => by simp at hm
 | n + 1, x :: l, y :: m, hl, hm, hx, hy => fun a b => by
  have ih := less_digits n l m (by simpa using hl) (by simpa using hm) (fun c hc => hx c (List.mem_cons_of_mem _ hc)) (fun c hc => hy c (List.mem_cons_of_mem _ hc)); have x0 := hx x (List.mem_cons_self ..); have y0 := hy y (List.mem_cons_self ..)
  have key : ∀ a : Nat, Op.bytesLess (x :: l) (y :: m) = decide ((x :: l).foldl (fun a c => 10 * a + (c.toNat - 48)) a < (y :: m).foldl (fun a c => 10 * a + (c.toNat - 48)) a) := fun a => by
   simp only [List.foldl_cons, Op.bytesLess]
   rcases Nat.lt_trichotomy x.toNat y.toNat with h | h | h
   ·have h1 : x < y := h; rw [decide_eq_true h1, Bool.true_or]
    symm
    exact decide_eq_true ((ih _ _).1 (by omega))
   ·have h1 : x = y := UInt8.toNat_inj.1 h; subst h1; rw [(ih (10 * a + (x.toNat - 48)) (10 * a + (x.toNat - 48))).2.2 rfl, show (x == x) = true by simp, decide_eq_false (show ¬ x < x from Nat.lt_irrefl _)]; simp only [Bool.false_or, Bool.true_and]; exact decide_eq_decide.2 Iff.rfl
   ·have h1 : ¬ x < y := Nat.not_lt.2 (Nat.le_of_lt h)
    have h2 : (x == y) = false := by
     apply beq_false_of_ne
     intro e; rw [e] at h
     omega
    rw [decide_eq_false h1, h2]; simp only [Bool.false_and, Bool.or_self]
    symm
    apply decide_eq_false
    have := (less_digits n m l (by simpa using hm) (by simpa using hl) (fun c hc => hy c (List.mem_cons_of_mem _ hc)) (fun c hc => hx c (List.mem_cons_of_mem _ hc)) (10 * a + (y.toNat - 48)) (10 * a + (x.toNat - 48))).1 (by omega)
    omega
  refine ⟨fun h => ?_, key 0, fun h => by subst h; exact key a⟩; simp only [List.foldl_cons]; exact (ih _ _).1 (by omega)
end Dec
end Go.Proofs.YtkgkihichdcpmaaGreatDoor.H
end
section
namespace Go.Proofs.YtkgkihichdcpmaaGreatDoor.H
open Go.RowKit Go.Shelf Go.Proofs.YtkgkihichdcpmaaGreatDoorW.PrintWords Go.Proofs.YtkgkihichdcpmaaGreatDoorW.PrintLast Go.Proofs.YtkgkihichdcpmaaGreatDoorW.PrintMore
namespace Dec
theorem pcs_le : ∀ (B n : Nat), n < 1000000000 ^ B → (pcs n).length ≤ B
 | 0, n, h => by
  have : n = 0 := by simpa using h
  subst this
  rw [pcs_zero]; simp
 | B + 1, n, h => by
  by_cases h0 : n = 0
  ·subst h0; rw [pcs_zero]; simp
  ·rw [pcs_pos h0, List.length_cons]
   have := pcs_le B (n / 1000000000) (by
    rw [Nat.pow_succ] at h
    exact Nat.div_lt_of_lt_mul (by rw [Nat.mul_comm]; exact h))
   omega
theorem and_one (n : Nat) (h : n < 9223372036854775808) : Go.bits .and .i64 (n : Int) 1 = ((n % 2 : Nat) : Int) := by
 unfold Go.bits
 have h1 : (BitVec.ofInt IntKind.i64.bits (n : Int) &&& BitVec.ofInt IntKind.i64.bits 1).toNat = n % 2 := by
  rw [BitVec.toNat_and, BitVec.toNat_ofInt, BitVec.toNat_ofInt]
  have e1 : ((n : Int) % ((2 ^ IntKind.i64.bits : Nat) : Int)).toNat = n := by
   rw [show ((2 ^ IntKind.i64.bits : Nat) : Int) = 18446744073709551616 by decide]
   omega
  have e2 : ((1 : Int) % ((2 ^ IntKind.i64.bits : Nat) : Int)).toNat = 1 := by decide
  rw [e1, e2, Nat.and_one_is_mod]
 simp only []; rw [h1]
 have : n % 2 = 0 ∨ n % 2 = 1 := by omega
 rcases this with h | h <;> rw [h] <;> decide
theorem pow_half (a p n : Nat) : a * p ^ n = (if n % 2 = 1 then a * p else a) * (p * p) ^ (n / 2) := by
 rw [show p * p = p ^ 2 from (Nat.pow_two p).symm, ← Nat.pow_mul]
 split
 ·rename_i h
  rw [Nat.mul_assoc, ← Nat.pow_succ']
  congr 2
  omega
 ·congr 2
  omega
theorem power_l0 (B D : Nat) (hB : B ≤ 100000) (hD : D ≤ 20000) (K : Nat) (hK : B * (B + 2) + B + B + 3 ≤ K) : ∀ (n a p : Nat), n < 100000000 → 1 ≤ a → 1 ≤ p → a * p ^ n < 1000000000 ^ B → a * p ^ n < 10 ^ D → 1 ≤ D → ∀ k, K + n + 1 ≤ k →
  dePo.l0 k (n : Int) (pcs a) (pcs p) = some (dec (a * p ^ n), 0) := by
 intro n
 induction n using Nat.strongRecOn with
 | _ n ih =>
  intro a p hn ha hp hb hd hD1 k hk
  obtain ⟨k, rfl⟩ : ∃ k', k = k' + 1 := ⟨k - 1, by omega⟩
  have hlen : ∀ m, m ≤ a * p ^ n → (pcs m).length ≤ B := fun m hm => pcs_le B m (Nat.lt_of_le_of_lt hm hb)
  have ht : ∀ x y, x ≤ a * p ^ n → y ≤ a * p ^ n → dptm.f k (pcs x) (pcs y) = some (pcs (x * y)) := fun x y hx hy => by
   have h1 := hlen x hx; have h2 := hlen y hy; refine times_spec x y (by omega) (by omega) k ?_; have : (pcs x).length * ((pcs y).length + 2) ≤ B * (B + 2) := Nat.mul_le_mul h1 (by omega)
   omega
  unfold dePo.l0
  by_cases h0 : n = 0
  ·subst h0; simp only [Nat.pow_zero, Nat.mul_one] at *; have hl : (Lib.decDigits a).length ≤ D := digits_le_of_lt hd hD1; rw [if_neg (by simp), text_pcs a (by omega) (by have := hlen a (Nat.le_refl _); omega), Option.bind_some, if_neg (by rw [dec_size]; omega)]
  ·have hpn : p ≤ a * p ^ n := by
    calc p = 1 * p ^ 1 := by simp
     _ ≤ a * p ^ n := Nat.mul_le_mul ha (Nat.pow_le_pow_right hp (by omega))
   have han : a ≤ a * p ^ n := Nat.le_mul_of_pos_right _ (Nat.pow_pos hp); rw [if_pos (by omega), and_one n (by omega)]
   have hq : ((n : Int) / 2) = ((n / 2 : Nat) : Int) := by omega
   have hph := pow_half a p n; rw [hq]
   by_cases h1 : n % 2 = 1
   ·rw [if_pos (by omega), ht a p han hpn, Option.bind_some]; rw [if_pos h1] at hph
    by_cases h2 : 1 < n
    ·rw [if_pos (by omega), ht p p hpn hpn, Option.bind_some, hph]; rw [hph] at hb hd; exact ih (n / 2) (by omega) (a * p) (p * p) (by omega) (Nat.mul_pos ha hp) (Nat.mul_pos hp hp) hb hd hD1 k (by omega)
    ·have hn1 : n = 1 := by omega
     subst hn1; rw [if_neg (by omega)]; have := ih 0 (by omega) (a * p) p (by omega) (Nat.mul_pos ha hp) hp (by simpa using hb) (by simpa using hd) hD1 k (by omega)
     simpa using this
   ·rw [if_neg (by omega)]; rw [if_neg h1] at hph; rw [if_pos (by omega), ht p p hpn hpn, Option.bind_some, hph]; rw [hph] at hb hd; exact ih (n / 2) (by omega) a (p * p) (by omega) ha (Nat.mul_pos hp hp) hb hd hD1 k (by omega)
end Dec
end Go.Proofs.YtkgkihichdcpmaaGreatDoor.H
end
section
namespace Go.Proofs.YtkgkihichdcpmaaGreatDoor.H
open Go.RowKit Go.Shelf Go.Proofs.YtkgkihichdcpmaaGreatDoorW.PrintWords Go.Proofs.YtkgkihichdcpmaaGreatDoorW.PrintLast Go.Proofs.YtkgkihichdcpmaaGreatDoorW.PrintMore
set_option exponentiation.threshold 5000
namespace Dec
def pOk (p : Nat) : Bool := p < 2 || (decide ((dec p).toList ≠ [48]) && decide ((dec p).toList ≠ [49]) && (match decimal_Bits.f (dec p) with | some b => decide (2 ≤ b) && decide (b ≤ 7) | none => false))
theorem pOk_all : (List.range 98).all pOk = true := by kernel_rfl
theorem pOk_at {p : Nat} (h : 2 ≤ p) (h2 : p ≤ 97) : (dec p).toList ≠ [48] ∧ (dec p).toList ≠ [49] ∧ ∃ b, decimal_Bits.f (dec p) = some b ∧ 2 ≤ b ∧ b ≤ 7 := by
 have := List.all_eq_true.1 pOk_all p (List.mem_range.2 (by omega)); unfold pOk at this; rw [decide_eq_false (by omega : ¬ p < 2), Bool.false_or] at this; simp only [Bool.and_eq_true, decide_eq_true_eq] at this; obtain ⟨⟨h1, h2⟩, h3⟩ := this; refine ⟨h1, h2, ?_⟩
 revert h3
 cases decimal_Bits.f (dec p) with
 | none => intro h3; simp at h3
 | some b => intro h3; exact ⟨b, rfl, by simpa using h3⟩
theorem pow_lt {p n : Nat} (h2 : p ≤ 97) (hn : n ≤ 1000) : p ^ n ≤ 10 ^ 2000 := by
 calc p ^ n ≤ 100 ^ n := Nat.pow_le_pow_left (by omega) n
  _ = 10 ^ (2 * n) := by rw [Nat.pow_mul]
  _ ≤ 10 ^ 2000 := Nat.pow_le_pow_right (by omega) (by omega)
theorem bill : (10 : Nat) ^ 2000 < 1000000000 ^ 223 := by
 rw [show (1000000000 : Nat) ^ 223 = 10 ^ 2007 from by rw [show (1000000000 : Nat) = 10 ^ 9 from rfl, ← Nat.pow_mul]]; exact Nat.pow_lt_pow_right (by omega) (by omega)
theorem w64 {x : Int} (h : 0 ≤ x) (h2 : x ≤ 1000000) : wrap64 x = x := by unfold wrap64; omega
theorem bits_room {b x : Int} (h1 : 2 ≤ b) (h2 : b ≤ 7) (hx : x ≤ 1000) : wrap64 (b - 1) ≠ 0 ∧ ¬ x > wrap64 ((66439 : Int) / wrap64 (b - 1)) := by
 rw [w64 (x := b - 1) (by omega) (by omega)]; refine ⟨by omega, ?_⟩
 have h : b = 2 ∨ b = 3 ∨ b = 4 ∨ b = 5 ∨ b = 6 ∨ b = 7 := by omega
 rcases h with rfl | rfl | rfl | rfl | rfl | rfl <;> (rw [w64 (by decide) (by decide)]; omega)
theorem dec_one : dec 1 = (⟨#[49]⟩ : ByteArray) := by
 unfold dec; rw [digits_one 1 (by omega)]; rfl
theorem power_dec (p n : Nat) (h : 2 ≤ p) (h2 : p ≤ 97) (hn : n ≤ 1000) (k : Nat) (hk : 100000 ≤ k) : dePo.f k (dec p) (n : Int) = some (dec (p ^ n), 0) := by
 obtain ⟨k, rfl⟩ : ∃ k', k = k' + 1 := ⟨k - 1, by omega⟩
 obtain ⟨h48, h49, b, hb, hb2, hb7⟩ := pOk_at h h2; unfold dePo.f; rw [if_neg (by omega)]
 by_cases h0 : n = 0
 ·subst h0; rw [if_pos (show ((0 : Nat) : Int) = 0 from rfl)]; unfold dePo.j0
  dsimp only
  rw [if_pos rfl, Nat.pow_zero, dec_one]
 ·rw [if_neg (by omega), show ((dec p).toList == ([49] : List UInt8)) = false from beq_false_of_ne h49]; unfold dePo.j0
  dsimp only
  have hr := bits_room hb2 hb7 (show (n : Int) ≤ 1000 by omega); rw [if_neg (by simp), if_neg h48, hb, Option.bind_some, if_neg hr.1, if_neg hr.2, cut_dec p (by rw [dec_size]; have := digits_le_of_lt (n := p) (d := 2) (by omega) (by omega); omega), Option.bind_some]
  have h1 : ([1] : List Int) = pcs 1 := by rw [pcs_pos (by omega), pcs_zero]; rfl
  have hlt := pow_lt h2 hn; have := power_l0 223 2001 (by omega) (by omega) 50624 (by omega) n 1 p (by omega) (by omega) (by omega) (by rw [Nat.one_mul]; exact Nat.lt_of_le_of_lt hlt bill) (by rw [Nat.one_mul]; exact Nat.lt_of_le_of_lt hlt (Nat.pow_lt_pow_right (by omega) (by omega))) (by omega) k (by omega); rw [Nat.one_mul] at this; rw [h1]; exact this
theorem of_small {a : Int} (h : 2 ≤ a) (h2 : a ≤ 97) : decimal_Of.f (IntKind.u64.wrap a) = some (dec a.toNat) := by
 rw [u64_small (by omega) (by omega), show a = ((a.toNat : Nat) : Int) by omega]; exact of_dec a.toNat (by omega)
theorem abs_mx {e : Int} (h : -1000 ≤ e) (h2 : e ≤ 1000) : mx e (wrap64 (-e)) = ((e.natAbs : Nat) : Int) := by
 unfold mx wrap64
 split <;> omega
theorem digits10 {n i : Nat} (h : n ≤ 10 ^ i) : (Lib.decDigits n).length ≤ i + 1 := digits_le_of_lt (Nat.lt_of_le_of_lt h (Nat.pow_lt_pow_right (by omega) (by omega))) (by omega)
theorem mul_room {a b : Nat} (ha : (Lib.decDigits a).length ≤ 20000) (hb : (Lib.decDigits b).length ≤ 20000) (k : Nat) (hk : 1000000000 ≤ k) : deMu.f k (dec a) (dec b) = some (dec (a * b)) := by
 refine mul_dec a b (by omega) k ?_; have h1 := pcs_len a; have h2 := pcs_len b; have : (pcs a).length * ((pcs b).length + 2) ≤ 20000 * 20002 := Nat.mul_le_mul (by omega) (by omega)
 omega
theorem sides_l0 (p x : List Int) (hp : ∀ a ∈ p, 2 ≤ a ∧ a ≤ 97) (hx : ∀ e ∈ x, -1000 ≤ e ∧ e ≤ 1000) (hl : x.length = p.length) (h6 : x.length ≤ 6) : ∀ (m i N D : Nat), x.length - i = m → i ≤ x.length → N ≤ 10 ^ (2000 * i) → D ≤ 10 ^ (2000 * i) → ∀ k, 2000000000 ≤ k + i →
  mzsi.l0 k p (dec N) (dec D) x (x.length : Int) (i : Int) = some (dec (N * numP (p.drop i) (x.drop i)), dec (D * denP (p.drop i) (x.drop i))) := by
 intro m
 induction m with
 | zero =>
  intro i N D hm hi hN hD k hk
  obtain ⟨k, rfl⟩ : ∃ k', k = k' + 1 := ⟨k - 1, by omega⟩
  unfold mzsi.l0; rw [if_neg (by omega), List.drop_of_length_le (by omega), List.drop_of_length_le (by omega)]; simp [numP, denP]
 | succ m ih =>
  intro i N D hm hi hN hD k hk
  obtain ⟨k, rfl⟩ : ∃ k', k = k' + 1 := ⟨k - 1, by omega⟩
  have hi1 : i < x.length := by omega
  have hi2 : i < p.length := by omega
  obtain ⟨hp1, hp2⟩ := hp p[i] (List.getElem_mem hi2); obtain ⟨hx1, hx2⟩ := hx x[i] (List.getElem_mem hi1); have hdp : p.drop i = p[i] :: p.drop (i + 1) := List.drop_eq_getElem_cons hi2; have hdx : x.drop i = x[i] :: x.drop (i + 1) := List.drop_eq_getElem_cons hi1; have hpow : (p[i]).toNat ^ (x[i]).natAbs ≤ 10 ^ 2000 := pow_lt (by omega) (by omega)
  have hstep : ∀ M, M ≤ 10 ^ (2000 * i) → M * (p[i]).toNat ^ (x[i]).natAbs ≤ 10 ^ (2000 * (i + 1)) := fun M hM => by
   rw [show 2000 * (i + 1) = 2000 * i + 2000 by omega, Nat.pow_add]; exact Nat.mul_le_mul hM hpow
  have hkeep : ∀ M, M ≤ 10 ^ (2000 * i) → M ≤ 10 ^ (2000 * (i + 1)) := fun M hM => Nat.le_trans hM (Nat.pow_le_pow_right (by omega) (by omega))
  have hmul : ∀ M, M ≤ 10 ^ (2000 * i) → deMu.f k (dec M) (dec ((p[i]).toNat ^ (x[i]).natAbs)) = some (dec (M * (p[i]).toNat ^ (x[i]).natAbs)) := fun M hM => by
   have h1 := digits10 hM; have h2 := digits10 hpow; exact mul_room (Nat.le_trans h1 (by omega)) (Nat.le_trans h2 (by omega)) k (by omega)
  unfold mzsi.l0; rw [if_pos (by omega), if_pos (by omega), if_pos (by omega), if_pos (by omega), rd_nat x i hi1, rd_nat p i hi2, of_small hp1 hp2, Option.bind_some, abs_mx hx1 hx2, power_dec _ _ (by omega) (by omega) (by omega) k (by omega), Option.bind_some, wrap_succ (by omega)]; rw [hdp, hdx]
  by_cases h0 : 0 < x[i]
  ·rw [if_pos h0, hmul N hN, Option.bind_some, ih (i + 1) _ D (by omega) (by omega) (hstep N hN) (hkeep D hD) k (by omega)]; simp only [numP, denP, if_pos h0, Nat.one_mul, ← Nat.mul_assoc]; rw [show (x[i]).natAbs = (x[i]).toNat by omega]
  ·rw [if_neg h0, hmul D hD, Option.bind_some, ih (i + 1) N _ (by omega) (by omega) (hkeep N hN) (hstep D hD) k (by omega)]; simp only [numP, denP, if_neg h0, Nat.one_mul, ← Nat.mul_assoc]; rw [show (x[i]).natAbs = (-x[i]).toNat by omega]
theorem sides_dec (p x : List Int) (hp : ∀ a ∈ p, 2 ≤ a ∧ a ≤ 97) (hx : ∀ e ∈ x, -1000 ≤ e ∧ e ≤ 1000) (hl : x.length = p.length) (h6 : x.length ≤ 6) (k : Nat) (hk : 2000000000 ≤ k) :
  mzsi.f k p x = some (dec (numP p x), dec (denP p x)) := by
 have := sides_l0 p x hp hx hl h6 x.length 0 1 1 (by omega) (by omega) (by simp) (by simp) k (by omega); simp only [List.drop_zero, Nat.one_mul, dec_one] at this; exact this
end Dec
end Go.Proofs.YtkgkihichdcpmaaGreatDoor.H
end
section
namespace Go.Proofs.YtkgkihichdcpmaaGreatDoor.H
open Go.RowKit Go.Shelf Go.Proofs.YtkgkihichdcpmaaGreatDoorW.PrintWords Go.Proofs.YtkgkihichdcpmaaGreatDoorW.PrintLast Go.Proofs.YtkgkihichdcpmaaGreatDoorW.PrintMore
attribute [local go_sem] max2_int min2_int max_two min_two max_three min_three max_four min_four
set_option linter.unusedVariables false
set_option linter.unusedSimpArgs false
def RightX (n : Nat) (x : List Int) : Prop := x.length = n ∧ ∀ e ∈ x, -1000 ≤ e ∧ e ≤ 1000
theorem right_l1 (p : List Int) (l : List (List Int)) (i : Nat) (x : List Int) (hp : p.length ≤ 6) (hx : RightX p.length x) (K : Nat) (hK : ∀ k, K ≤ k → mzCA.l0 k p l (l.length : Int) ((i + 1 : Nat) : Int) = some 0) (hi : (i : Int) + 1 ≤ 9223372036854775807) :
  ∀ (m j : Nat), x.length - j = m → j ≤ x.length → ∀ k, K + m + 1 ≤ k → mzCA.l1 k p l (l.length : Int) (i : Int) x (x.length : Int) (j : Int) = some 0
 | m, j, hm, hj, 0, hk => by omega
 | m, j, hm, hj, k + 1, hk => by
  have hxl := hx.1
  have hw : wrap64 ((i : Int) + 1) = ((i + 1 : Nat) : Int) := by rw [wrap_small (by omega) (by omega)]; omega
  unfold mzCA.l1
  by_cases h : j < x.length
  ·obtain ⟨m', rfl⟩ : ∃ m', m = m' + 1 := ⟨m - 1, by omega⟩
   have hr := right_l1 p l i x hp hx K hK hi m' (j + 1) (by omega) (by omega) k (by omega)
   have hw2 : wrap64 ((j : Int) + 1) = ((j + 1 : Nat) : Int) := by rw [wrap_small (by omega) (by omega)]; omega
   have hb := hx.2 x[j] (List.getElem_mem h)
   have hrd : rd x (j : Int) = x[j] := by
    unfold rd; rw [Int.toNat_natCast, List.getD_eq_getElem?_getD, List.getElem?_eq_getElem h]; rfl
   rw [if_pos (by omega), if_pos (by omega), if_pos (by omega), hw2, hr, hrd, if_neg (by omega), if_neg (by omega)]
  ·rw [if_neg (by omega), hw]; exact hK k (by omega)
theorem right_l0 (p : List Int) (hp : p.length ≤ 6) (l : List (List Int)) (hl : l.length ≤ 9223372036854775807) (hr : ∀ x ∈ l, RightX p.length x) : ∀ (m i : Nat), l.length - i = m → i ≤ l.length → ∀ k, m * 10 + 10 ≤ k → mzCA.l0 k p l (l.length : Int) (i : Int) = some 0
 | m, i, hm, hi, 0, hk => by omega
 | m, i, hm, hi, k + 1, hk => by
  unfold mzCA.l0
  by_cases h : i < l.length
  ·obtain ⟨m', rfl⟩ : ∃ m', m = m' + 1 := ⟨m - 1, by omega⟩
   have hx : RightX p.length (rd_L3 l i) := by
    have : rd_L3 l i = l[i] := by
     unfold rd_L3; rw [Int.toNat_natCast, List.getD_eq_getElem?_getD, List.getElem?_eq_getElem h]; rfl
    rw [this]; exact hr _ (List.getElem_mem h)
   have hxl := hx.1; rw [if_pos (by omega), if_pos (by omega), if_pos (by omega), if_pos (by omega)]; exact right_l1 p l i (rd_L3 l i) hp hx (m' * 10 + 10) (fun k hk => right_l0 p hp l hl hr m' (i + 1) (by omega) (by omega) k hk) (by omega) _ 0 rfl (by omega) k (by omega)
  ·rw [if_neg (by omega)]
theorem right_all (p : List Int) (l : List (List Int)) (hl : l.length ≤ 1000) (hp : ∃ k, prCk.f k p = some 0) (hr : ∀ x ∈ l, RightX p.length x) : ∃ k, mzCA.f k p l = some 0 ∧ prCk.f k p = some 0 := by
 obtain ⟨k0, ht⟩ := hp; have hp := primeCheck_zero ht; have ht' := at_rounds (g := fun k => prCk.f k p) (fun k => prCk.mono p k) (Nat.le_add_right k0 (l.length * 10 + 10)) ht; refine ⟨k0 + (l.length * 10 + 10), ?_, ht'⟩; unfold mzCA.f; rw [ht']; exact right_l0 p hp l (by omega) hr l.length 0 (by omega) (by omega) (k0 + (l.length * 10 + 10)) (by omega)
theorem right_list (p : List Int) (l : List (List Int)) (hl : l.length ≤ 600) (hp : ∃ k, prCk.f k p = some 0) (hr : ∀ x ∈ l, RightX p.length x) : ∃ k, target_checkList.f k p l = some 0 := by
 obtain ⟨k, h1, h2⟩ := right_all p l (by omega) hp hr; exact ⟨k, checkList_zero h1 h2 hl⟩
theorem mcheck_at (p x : List Int) (hp : prCk.f 300 p = some 0) (hr : RightX p.length x) (k : Nat) (hk : 320 ≤ k) : monzo_Check.f k p x = some 0 := by
 have hp6 := primeCheck_zero hp; have ht' := at_rounds (g := fun k => prCk.f k p) (fun k => prCk.mono p k) hk (at_rounds (g := fun k => prCk.f k p) (fun k => prCk.mono p k) (show 300 ≤ 320 by omega) hp); unfold monzo_Check.f mzCA.f; rw [ht']; simp only [Option.bind_some, if_true]; have h0 : mzCA.l0 k p [x] (([x].length : Nat) : Int) 0 = some 0 := right_l0 p hp6 [x] (by simp) (fun y hy => by rw [List.mem_singleton.1 hy]; exact hr) 1 0 (by simp) (by simp) k (by omega); rw [h0]; rfl
end Go.Proofs.YtkgkihichdcpmaaGreatDoor.H
end
section
namespace Go.Proofs.YtkgkihichdcpmaaGreatDoor.H
open Go.RowKit Go.Shelf Go.Proofs.YtkgkihichdcpmaaGreatDoorW.PrintWords Go.Proofs.YtkgkihichdcpmaaGreatDoorW.PrintLast Go.Proofs.YtkgkihichdcpmaaGreatDoorW.PrintMore
attribute [local go_sem] max2_int min2_int max_two min_two max_three min_three max_four min_four
set_option linter.unusedVariables false
set_option linter.unusedSimpArgs false
def kPrimes : List (List Int) := [[2, 3, 5], [2, 3, 5, 7], [2, 3], [2, 3, 7], [2, 5, 7], [3, 5, 7], [2, 3, 5, 11], [2], [2, 3, 7, 13], [3, 5, 7, 13]]
theorem C_lit_at (W : World) (l : List Int) (n : Nat) (hn : n = W.heap.size) (h : l.length ≤ 1000) : Kd.C (Kd.int .i64) (W.alloc (.cells (l.map (Value.int .i64)).toArray 3)) (some ⟨n, 0, none⟩) l.length l := by
 subst hn; exact C_lit W l h
set_option maxHeartbeats 4000000 in
set_option maxRecDepth 100000 in
theorem primes_calls (n : Int) (w : World) (hn : 0 ≤ n) (hn2 : n ≤ 255) :
  Calls Tryz.prog 12 #[.int .u8 n] w fun e w' => ∃ A c, e = .returned (.slice A (kPrimes.getD (n % 10).toNat []).length c) ∧ (kPrimes.getD (n % 10).toNat []).length ≤ c ∧ Kd.C (Kd.int .i64) w' A (kPrimes.getD (n % 10).toNat []).length (kPrimes.getD (n % 10).toNat []) ∧ Below w.heap.size w w' := by
 have hw : wrap64 n = n := by unfold wrap64; omega
 have hj10 : n % 10 = 0 ∨ n % 10 = 1 ∨ n % 10 = 2 ∨ n % 10 = 3 ∨ n % 10 = 4 ∨ n % 10 = 5 ∨ n % 10 = 6 ∨ n % 10 = 7 ∨ n % 10 = 8 ∨ n % 10 = 9 := by omega
 rcases hj10 with hj | hj | hj | hj | hj | hj | hj | hj | hj | hj
 ·go_enter Tryz.func12, Tryz.ntmps12; go_wp2_with fail; go_ret; rw [hj]; refine ⟨_, _, rfl, Nat.le_refl _, ?_, ?_⟩
  ·iterate 10 refine Kd.C_alloc ?_ _
   exact C_lit_at _ [2, 3, 5] _ (by simp only [World.size_alloc]) (by decide)
  ·repeat (first | exact Below.refl _ _ | apply bla)
 ·go_enter Tryz.func12, Tryz.ntmps12; go_wp2_with fail; go_ret; rw [hj]; refine ⟨_, _, rfl, Nat.le_refl _, ?_, ?_⟩
  ·iterate 9 refine Kd.C_alloc ?_ _
   exact C_lit_at _ [2, 3, 5, 7] _ (by simp only [World.size_alloc]) (by decide)
  ·repeat (first | exact Below.refl _ _ | apply bla)
 ·go_enter Tryz.func12, Tryz.ntmps12; go_wp2_with fail; go_ret; rw [hj]; refine ⟨_, _, rfl, Nat.le_refl _, ?_, ?_⟩
  ·iterate 8 refine Kd.C_alloc ?_ _
   exact C_lit_at _ [2, 3] _ (by simp only [World.size_alloc]) (by decide)
  ·repeat (first | exact Below.refl _ _ | apply bla)
 ·go_enter Tryz.func12, Tryz.ntmps12; go_wp2_with fail; go_ret; rw [hj]; refine ⟨_, _, rfl, Nat.le_refl _, ?_, ?_⟩
  ·iterate 7 refine Kd.C_alloc ?_ _
   exact C_lit_at _ [2, 3, 7] _ (by simp only [World.size_alloc]) (by decide)
  ·repeat (first | exact Below.refl _ _ | apply bla)
 ·go_enter Tryz.func12, Tryz.ntmps12; go_wp2_with fail; go_ret; rw [hj]; refine ⟨_, _, rfl, Nat.le_refl _, ?_, ?_⟩
  ·iterate 6 refine Kd.C_alloc ?_ _
   exact C_lit_at _ [2, 5, 7] _ (by simp only [World.size_alloc]) (by decide)
  ·repeat (first | exact Below.refl _ _ | apply bla)
 ·go_enter Tryz.func12, Tryz.ntmps12; go_wp2_with fail; go_ret; rw [hj]; refine ⟨_, _, rfl, Nat.le_refl _, ?_, ?_⟩
  ·iterate 5 refine Kd.C_alloc ?_ _
   exact C_lit_at _ [3, 5, 7] _ (by simp only [World.size_alloc]) (by decide)
  ·repeat (first | exact Below.refl _ _ | apply bla)
 ·go_enter Tryz.func12, Tryz.ntmps12; go_wp2_with fail; go_ret; rw [hj]; refine ⟨_, _, rfl, Nat.le_refl _, ?_, ?_⟩
  ·iterate 4 refine Kd.C_alloc ?_ _
   exact C_lit_at _ [2, 3, 5, 11] _ (by simp only [World.size_alloc]) (by decide)
  ·repeat (first | exact Below.refl _ _ | apply bla)
 ·go_enter Tryz.func12, Tryz.ntmps12; go_wp2_with fail; go_ret; rw [hj]; refine ⟨_, _, rfl, Nat.le_refl _, ?_, ?_⟩
  ·iterate 3 refine Kd.C_alloc ?_ _
   exact C_lit_at _ [2] _ (by simp only [World.size_alloc]) (by decide)
  ·repeat (first | exact Below.refl _ _ | apply bla)
 ·go_enter Tryz.func12, Tryz.ntmps12; go_wp2_with fail; go_ret; rw [hj]; refine ⟨_, _, rfl, Nat.le_refl _, ?_, ?_⟩
  ·iterate 2 refine Kd.C_alloc ?_ _
   exact C_lit_at _ [2, 3, 7, 13] _ (by simp only [World.size_alloc]) (by decide)
  ·repeat (first | exact Below.refl _ _ | apply bla)
 ·go_enter Tryz.func12, Tryz.ntmps12; go_wp2_with fail; go_ret; rw [hj]; refine ⟨_, _, rfl, Nat.le_refl _, ?_, ?_⟩
  ·iterate 1 refine Kd.C_alloc ?_ _
   exact C_lit_at _ [3, 5, 7, 13] _ (by simp only [World.size_alloc]) (by decide)
  ·repeat (first | exact Below.refl _ _ | apply bla)
end Go.Proofs.YtkgkihichdcpmaaGreatDoor.H
end
section
namespace Go.Proofs.YtkgkihichdcpmaaGreatDoor.H
open Go.RowKit Go.Shelf Go.Proofs.YtkgkihichdcpmaaGreatDoorW.PrintWords Go.Proofs.YtkgkihichdcpmaaGreatDoorW.PrintLast Go.Proofs.YtkgkihichdcpmaaGreatDoorW.PrintMore
attribute [local go_sem] max2_int min2_int max_two min_two max_three min_three max_four min_four
set_option linter.unusedVariables false
set_option linter.unusedSimpArgs false
def ivl (n : Nat) (es : List Int) : List Int := (es.take n).map fun e => Int.tmod e 10
theorem ivl_step (es : List Int) (i : Nat) (h : i < es.length) : ivl (i + 1) es = ivl i es ++ [Int.tmod es[i] 10] := by
 unfold ivl; rw [List.take_succ_eq_append_getElem h, List.map_append]; rfl
theorem ivl_len (es : List Int) (i : Nat) : (ivl i es).length = min i es.length := by
 unfold ivl; rw [List.length_map, List.length_take]
set_option maxHeartbeats 4000000 in
set_option maxRecDepth 100000 in
theorem interval_calls (A : Option Addr) (c : Nat) (p : List Int) (e0 e1 e2 e3 : Int) (w : World) (hb : ∀ e ∈ [e0, e1, e2, e3], -128 ≤ e ∧ e ≤ 127) :
  Calls Tryz.prog 13 #[.slice A p.length c, .agg #[.int .i8 e0, .int .i8 e1, .int .i8 e2, .int .i8 e3]] w fun e w' => ∃ v, e = .returned v ∧ Kd.R (Kd.int .i64) 3 w' w.heap.size (fun _ => True) v (ivl (min p.length 4) [e0, e1, e2, e3]) ∧ Below w.heap.size w w' := by
 have HE := AS hb; have hb0 := (Below.refl w.heap.size w).alloc (Nat.le_refl _) (.cells #[.int .i8 e0, .int .i8 e1, .int .i8 e2, .int .i8 e3] 31)
 obtain ⟨w0, hw0⟩ : ∃ w0, w.alloc (.cells #[.int .i8 e0, .int .i8 e1, .int .i8 e2, .int .i8 e3] 31) = w0 := ⟨_, rfl⟩
 have HS : Aside0 (w0.heap.size = w.heap.size + 1) := ⟨by rw [← hw0]; simp⟩
 have HC : Aside0 (∀ i (h : i < 4), w0.cell? ⟨w.heap.size, i, none⟩ = some (.int .i8 [e0, e1, e2, e3][i])) := ⟨fun i h => by
  rw [← hw0, World.cell?_alloc_at _ _ _ _ rfl]
  have : i = 0 ∨ i = 1 ∨ i = 2 ∨ i = 3 := by omega
  rcases this with rfl | rfl | rfl | rfl <;> rfl⟩
 rw [hw0] at hb0; have HB0 := AS hb0; clear hb hb0; go_enter Tryz.func13, Tryz.ntmps13; go_wp2; clear hw0
 go_loopw [5, 6] (fun v u wr => ∃ i : Nat, u = .int .i64 i ∧ i ≤ p.length ∧ i ≤ 4 ∧ Aside0 (Kd.R (Kd.int .i64) 3 wr (w.heap.size + 1) (fun _ => True) v (ivl i [e0, e1, e2, e3])) ∧ Aside0 (Below (w.heap.size + 1) w0 wr)) (fun _ u _ => 4 - (intOf u).toNat)
 case atStart => exact ⟨0, rfl, Nat.zero_le _, Nat.zero_le _, ⟨Kd.R_nil _ _ _ _ _⟩, ⟨Below.refl _ _⟩⟩
 case round =>
  obtain ⟨i, rfl, hi1, hi2, HO, HB⟩ := hrel
  by_cases c1 : i < p.length
  ·by_cases c2 : i < 4
   ·have hcell : wr.cell? ⟨w.heap.size, i, none⟩ = some (.int .i8 [e0, e1, e2, e3][i]) := by
     rw [← HC.out i c2]; exact HB.out.cell (by show w.heap.size < _; omega)
    have hr := HE.out [e0, e1, e2, e3][i] (List.getElem_mem _); have HST := AS (ivl_step [e0, e1, e2, e3] i c2)
    obtain ⟨e, he⟩ : ∃ e, [e0, e1, e2, e3][i] = e := ⟨_, rfl⟩
    rw [he] at hcell hr HST; clear he; obtain ⟨hr1, hr2⟩ := hr; have HL := AS (ivl_len [e0, e1, e2, e3] i); go_wp2_with (at_builtin; (refine Kd.R_append (Kd.int .i64) (w0 := w0) (w.heap.size + 1) rfl (.tmp 17) (.tmp 23) 28 3 (.int .i64 0) 8 rfl Tryz.underlying28 info3 rfl (by decide) (by decide) u5 (ivl i [e0, e1, e2, e3]) (Int.tmod e 10) [.int .i64 (Int.tmod e 10)] (fun _ => True) (fun _ => False) rfl rfl rfl (fun _ hk_ => hk_.elim) (fun _ _ => trivial) (by (with_reducible repeat (first | apply Kd.R_alloc | apply Kd.R_drewN | apply Kd.R_drew)); exact HO.out) (by repeat (first | exact HB.out | apply bla)) (by have := HB.out.size; have := HS.out; simp; omega) (by have := HL.out; omega) ?_); intro v4 w4 hown4 hB4 _ _; rw [← HST.out] at hown4; have HO4 := AS hown4; have HB4 := AS hB4; clear hown4 hB4); go_roundw
    case rel => exact ⟨i + 1, by go_num, by omega, by omega, HO4, HB4⟩
    case measure => simp [intOf]; omega
   ·go_wp2; go_ret
    obtain rfl : i = 4 := by omega
    refine ⟨_, rfl, ?_, ?_⟩
    ·rw [Nat.min_eq_right (by omega)]; exact Kd.R_lower HO.out (by omega)
    ·exact HB0.out.trans (HB.out.mono (by omega))
  ·go_wp2; go_ret
   obtain rfl : i = p.length := by omega
   refine ⟨_, rfl, ?_, ?_⟩
   ·rw [Nat.min_eq_left (by omega)]; exact Kd.R_lower HO.out (by omega)
   ·exact HB0.out.trans (HB.out.mono (by omega))
end Go.Proofs.YtkgkihichdcpmaaGreatDoor.H
end
section
namespace Go.Proofs.YtkgkihichdcpmaaGreatDoor.H.Dec
def stepC (s : Nat × Nat × Nat) : Nat × Nat × Nat :=
 if 2 ^ 63 ≤ s.1 * s.1 / 2 ^ 62 then (s.1 * s.1 / 2 ^ 62 / 2, (s.2.1 * s.2.1 / 2 ^ 62 + 1) / 2 + 1, 2 * s.2.2 + 1) else (s.1 * s.1 / 2 ^ 62, s.2.1 * s.2.1 / 2 ^ 62 + 1, 2 * s.2.2)
def chainC : Nat → Nat × Nat × Nat → Nat × Nat × Nat
 | 0, s => s
 | n + 1, s => chainC n (stepC s)
def InvC (v : Nat) (s : Nat × Nat × Nat) : Prop := s.1 * 2 ^ s.2.2 ≤ v * 2 ^ 62 ∧ v * 2 ^ 62 ≤ s.2.1 * 2 ^ s.2.2
theorem InvC.step {v : Nat} {s : Nat × Nat × Nat} (h : InvC v s) : InvC (v * v) (stepC s) := by
 obtain ⟨l, u, o⟩ := s; obtain ⟨h1, h2⟩ := h
 dsimp only at h1 h2
 have ho : 2 ^ (2 * o) = 2 ^ o * 2 ^ o := by rw [show 2 * o = o + o by omega, Nat.pow_add]
 have hl : l * l / 2 ^ 62 * 2 ^ 62 ≤ l * l := Nat.div_mul_le_self _ _
 have hu : u * u ≤ (u * u / 2 ^ 62 + 1) * 2 ^ 62 := by
  have := Nat.div_add_mod (u * u) (2 ^ 62); have := Nat.mod_lt (u * u) (show 0 < 2 ^ 62 by decide); rw [Nat.add_mul, Nat.one_mul, Nat.mul_comm (u * u / 2 ^ 62)]
  omega
 have k1 : l * l / 2 ^ 62 * 2 ^ (2 * o) ≤ v * v * 2 ^ 62 := by
  apply Nat.le_of_mul_le_mul_right (c := 2 ^ 62) _ (by decide)
  calc l * l / 2 ^ 62 * 2 ^ (2 * o) * 2 ^ 62 = l * l / 2 ^ 62 * 2 ^ 62 * (2 ^ o * 2 ^ o) := by rw [ho]; ac_rfl
   _ ≤ l * l * (2 ^ o * 2 ^ o) := Nat.mul_le_mul_right _ hl
   _ = l * 2 ^ o * (l * 2 ^ o) := by ac_rfl
   _ ≤ v * 2 ^ 62 * (v * 2 ^ 62) := Nat.mul_le_mul h1 h1
   _ = _ := by ac_rfl
 have k2 : v * v * 2 ^ 62 ≤ (u * u / 2 ^ 62 + 1) * 2 ^ (2 * o) := by
  apply Nat.le_of_mul_le_mul_right (c := 2 ^ 62) _ (by decide)
  calc v * v * 2 ^ 62 * 2 ^ 62 = v * 2 ^ 62 * (v * 2 ^ 62) := by ac_rfl
   _ ≤ u * 2 ^ o * (u * 2 ^ o) := Nat.mul_le_mul h2 h2
   _ = u * u * (2 ^ o * 2 ^ o) := by ac_rfl
   _ ≤ (u * u / 2 ^ 62 + 1) * 2 ^ 62 * (2 ^ o * 2 ^ o) := Nat.mul_le_mul_right _ hu
   _ = _ := by rw [ho]; ac_rfl
 have hs : 2 ^ (2 * o + 1) = 2 * 2 ^ (2 * o) := by rw [Nat.pow_add, Nat.pow_one, Nat.mul_comm]
 unfold stepC
 dsimp only
 split
 ·refine ⟨Nat.le_trans ?_ k1, Nat.le_trans k2 ?_⟩
  ·dsimp only
   rw [hs, ← Nat.mul_assoc]; exact Nat.mul_le_mul_right _ (Nat.div_mul_le_self _ _)
  ·dsimp only
   rw [hs, ← Nat.mul_assoc]
   apply Nat.mul_le_mul_right
   omega
 ·exact ⟨k1, k2⟩
theorem InvC.chain : ∀ (n : Nat) {v : Nat} {s : Nat × Nat × Nat}, InvC v s → InvC (v ^ 2 ^ n) (chainC n s)
 | 0, v, s, h => by rw [Nat.pow_zero, Nat.pow_one]; exact h
 | n + 1, v, s, h => by
  have := InvC.chain n h.step; rw [Nat.pow_succ, Nat.mul_comm (2 ^ n) 2, Nat.pow_mul, show v ^ 2 = v * v from Nat.pow_two v]; exact this
def Cert (N p a b : Nat) : Prop := 2 ^ a ≤ p ^ N ∧ p ^ N ≤ 2 ^ b
def certB (n p k a : Nat) : Bool := let s := chainC n (p * 2 ^ (62 - k), p * 2 ^ (62 - k), k); Nat.ble (2 ^ 62) s.1 && Nat.ble s.2.1 (2 ^ 63) && Nat.beq s.2.2 a && Nat.ble k 62
theorem cert_of {n p k a : Nat} (h : certB n p k a = true) : Cert (2 ^ n) p a (a + 1) := by
 unfold certB at h; simp only [Bool.and_eq_true, Nat.ble_eq, Nat.beq_eq] at h; obtain ⟨⟨⟨h1, h2⟩, h3⟩, h4⟩ := h
 have hi : InvC p (p * 2 ^ (62 - k), p * 2 ^ (62 - k), k) := by
  have : p * 2 ^ (62 - k) * 2 ^ k = p * 2 ^ 62 := by rw [Nat.mul_assoc, ← Nat.pow_add]; congr 2; omega
  exact ⟨Nat.le_of_eq this, Nat.le_of_eq this.symm⟩
 obtain ⟨k1, k2⟩ := InvC.chain n hi; generalize chainC n (p * 2 ^ (62 - k), p * 2 ^ (62 - k), k) = s at *; have h3' : s.2.2 = a := h3; rw [h3'] at k1 k2
 constructor
 ·apply Nat.le_of_mul_le_mul_right (c := 2 ^ 62) _ (by decide)
  calc 2 ^ a * 2 ^ 62 = 2 ^ 62 * 2 ^ a := Nat.mul_comm _ _
   _ ≤ s.1 * 2 ^ a := Nat.mul_le_mul_right _ h1
   _ ≤ _ := k1
 ·apply Nat.le_of_mul_le_mul_right (c := 2 ^ 62) _ (by decide)
  calc p ^ 2 ^ n * 2 ^ 62 ≤ s.2.1 * 2 ^ a := k2
   _ ≤ 2 ^ 63 * 2 ^ a := Nat.mul_le_mul_right _ h2
   _ = 2 ^ (a + 1) * 2 ^ 62 := by rw [← Nat.pow_add, ← Nat.pow_add]; congr 1; omega
theorem cert_two (N : Nat) : Cert N 2 N N := ⟨Nat.le_refl _, Nat.le_refl _⟩
def LB (V D : Nat) (e : Int) : Prop := D * 2 ^ e.toNat ≤ V * 2 ^ (-e).toNat
theorem cancel2 {A B c : Nat} (h : A * 2 ^ c ≤ B * 2 ^ c) : A ≤ B := Nat.le_of_mul_le_mul_right h (Nat.pow_pos (by omega))
theorem LB.mul {V D V' D' : Nat} {e e' : Int} (h : LB V D e) (h' : LB V' D' e') : LB (V * V') (D * D') (e + e') := by
 unfold LB at *
 obtain ⟨c, hc1, hc2⟩ : ∃ c : Nat, e.toNat + e'.toNat = (e + e').toNat + c ∧ (-e).toNat + (-e').toNat = (-(e + e')).toNat + c := ⟨e.toNat + e'.toNat - (e + e').toNat, by omega, by omega⟩
 apply cancel2 (c := c)
 calc D * D' * 2 ^ (e + e').toNat * 2 ^ c = D * D' * 2 ^ (e.toNat + e'.toNat) := by rw [hc1, Nat.pow_add, Nat.mul_assoc]
  _ = D * 2 ^ e.toNat * (D' * 2 ^ e'.toNat) := by rw [Nat.pow_add]; ac_rfl
  _ ≤ V * 2 ^ (-e).toNat * (V' * 2 ^ (-e').toNat) := Nat.mul_le_mul h h'
  _ = V * V' * 2 ^ ((-e).toNat + (-e').toNat) := by rw [Nat.pow_add]; ac_rfl
  _ = V * V' * 2 ^ (-(e + e')).toNat * 2 ^ c := by rw [hc2, Nat.pow_add, ← Nat.mul_assoc]
theorem LB.mono {V D : Nat} {e e' : Int} (h : LB V D e) (he : e' ≤ e) : LB V D e' := by
 have h2 : LB 1 1 (e' - e) := by
  unfold LB; rw [show (e' - e).toNat = 0 by omega, Nat.pow_zero]; have : 0 < 2 ^ (-(e' - e)).toNat := Nat.pow_pos (by omega)
  omega
 have := h.mul h2; rw [Nat.mul_one, Nat.mul_one, show e + (e' - e) = e' by omega] at this; exact this
theorem LB_one : LB 1 1 0 := by unfold LB; simp
theorem pow_le_pow {a b : Nat} (n : Nat) (h : a ≤ b) : a ^ n ≤ b ^ n := Nat.pow_le_pow_left h n
theorem LB_prime {N p a b : Nat} (h : Cert N p a b) (n : Int) : LB ((p ^ n.toNat) ^ N) ((p ^ (-n).toNat) ^ N) (if 0 ≤ n then n * a else n * b) := by
 unfold LB
 have sw : ∀ m : Nat, (p ^ m) ^ N = (p ^ N) ^ m := fun m => by rw [← Nat.pow_mul, ← Nat.pow_mul, Nat.mul_comm]
 rw [sw, sw]
 by_cases h0 : 0 ≤ n
 ·obtain ⟨m, rfl⟩ : ∃ m : Nat, n = m := ⟨n.toNat, by omega⟩
  rw [if_pos h0]
  have e1 : ((m : Int) * (a : Int)).toNat = a * m := by rw [← Int.natCast_mul, Int.toNat_natCast, Nat.mul_comm]
  have e2 : (-((m : Int) * (a : Int))).toNat = 0 := by rw [← Int.natCast_mul]; omega
  rw [e1, e2, Int.toNat_natCast, show (-(m : Int)).toNat = 0 by omega, Nat.pow_zero, Nat.pow_zero, Nat.one_mul, Nat.mul_one, Nat.pow_mul]; exact pow_le_pow m h.1
 ·obtain ⟨m, rfl⟩ : ∃ m : Nat, n = -(m : Int) := ⟨(-n).toNat, by omega⟩
  rw [if_neg h0]
  have e1 : (-(m : Int) * (b : Int)).toNat = 0 := by rw [Int.neg_mul, ← Int.natCast_mul]; omega
  have e2 : (-(-(m : Int) * (b : Int))).toNat = b * m := by rw [Int.neg_mul, Int.neg_neg, ← Int.natCast_mul, Int.toNat_natCast, Nat.mul_comm]
  rw [e1, e2, Int.neg_neg, Int.toNat_natCast, show (-(m : Int)).toNat = 0 by omega, Nat.pow_zero, Nat.pow_zero, Nat.one_mul, Nat.mul_one, Nat.pow_mul]; exact pow_le_pow m h.2
theorem UB_prime {N p a b : Nat} (h : Cert N p a b) (n : Int) : LB ((p ^ (-n).toNat) ^ N) ((p ^ n.toNat) ^ N) (-(if 0 ≤ n then n * b else n * a)) := by
 have := LB_prime h (-n); rw [Int.neg_neg] at this; refine this.mono ?_
 by_cases h0 : 0 < n
 ·rw [if_pos (by omega), if_neg (by omega), Int.neg_mul]; exact Int.le_refl _
 ·by_cases h1 : n = 0
  ·subst h1; simp
  ·rw [if_neg (by omega), if_pos (by omega), Int.neg_mul]; exact Int.le_refl _
def lowS (A B : Int → Nat) : List Int → List Int → Int
 | a :: p, e :: x => (if 0 ≤ e then e * A a else e * B a) + lowS A B p x
 | _, _ => 0
def highS (A B : Int → Nat) : List Int → List Int → Int
 | a :: p, e :: x => (if 0 ≤ e then e * B a else e * A a) + highS A B p x
 | _, _ => 0
theorem LB_sum {N : Nat} {A B : Int → Nat} : ∀ (p x : List Int), (∀ a ∈ p, Cert N a.toNat (A a) (B a)) → LB (numP p x ^ N) (denP p x ^ N) (lowS A B p x)
 | [], _, _ => by simp only [numP, denP, lowS, Nat.one_pow]; exact LB_one
 | _ :: _, [], _ => by simp only [numP, denP, lowS, Nat.one_pow]; exact LB_one
 | a :: p, e :: x, h => by
  rw [numP_cons, denP_cons, Nat.mul_pow, Nat.mul_pow]; exact (LB_prime (h a (List.mem_cons_self ..)) e).mul (LB_sum p x fun b hb => h b (List.mem_cons_of_mem _ hb))
theorem UB_sum {N : Nat} {A B : Int → Nat} : ∀ (p x : List Int), (∀ a ∈ p, Cert N a.toNat (A a) (B a)) → LB (denP p x ^ N) (numP p x ^ N) (-(highS A B p x))
 | [], _, _ => by simp only [numP, denP, highS, Nat.one_pow]; exact LB_one
 | _ :: _, [], _ => by simp only [numP, denP, highS, Nat.one_pow]; exact LB_one
 | a :: p, e :: x, h => by
  rw [numP_cons, denP_cons, Nat.mul_pow, Nat.mul_pow, highS, Int.neg_add]; exact (UB_prime (h a (List.mem_cons_self ..)) e).mul (UB_sum p x fun b hb => h b (List.mem_cons_of_mem _ hb))
theorem root_le {a b N : Nat} (hN : 0 < N) (h : a ^ N ≤ b ^ N) : a ≤ b := by
 rcases Nat.lt_or_ge b a with h1 | h1
 ·have := Nat.pow_lt_pow_left h1 (Nat.pos_iff_ne_zero.1 hN)
  omega
 ·exact h1
def quoL (a b : Nat) (xl : Int) : Int := xl / (if xl < 0 then (a : Int) else b)
def quoH (a b : Nat) (xh : Int) : Int := xh / (if xh < 0 then (b : Int) else a)
theorem floor_low {N p a b V D : Nat} {xl : Int} (hN : 0 < N) (hc : Cert N p a b) (ha : 0 < a) (hb : 0 < b) (h : LB (V ^ N) (D ^ N) xl) : D * p ^ (quoL a b xl).toNat ≤ V * p ^ (-(quoL a b xl)).toNat := by
 apply root_le hN
 rw [Nat.mul_pow, Nat.mul_pow]; have h2 := UB_prime hc (quoL a b xl)
 have h3 : LB (V ^ N) (D ^ N) (if 0 ≤ quoL a b xl then quoL a b xl * b else quoL a b xl * a) := by
  refine h.mono ?_; unfold quoL
  by_cases hx : xl < 0
  ·rw [if_pos hx, if_neg (by have := Int.ediv_lt_of_lt_mul (show (0 : Int) < a by omega) (show xl < 0 * (a : Int) by omega); omega)]; exact Int.ediv_mul_le _ (by omega)
  ·rw [if_neg hx, if_pos (Int.ediv_nonneg (by omega) (by omega))]; exact Int.ediv_mul_le _ (by omega)
 have h4 := h3.mul h2; rw [Int.add_right_neg] at h4; unfold LB at h4
 simpa [Nat.mul_comm] using h4
theorem floor_high {N p a b V D : Nat} {xh : Int} (hc : Cert N p a b) (ha : 0 < a) (hb : 0 < b) (hV : 0 < V) (hp : 0 < p) (h : LB (D ^ N) (V ^ N) (-xh)) : V * p ^ (-(quoH a b xh + 1)).toNat < D * p ^ (quoH a b xh + 1).toNat := by
 rcases Nat.lt_or_ge (V * p ^ (-(quoH a b xh + 1)).toNat) (D * p ^ (quoH a b xh + 1).toNat) with h0 | h0
 ·exact h0
 exfalso
 have h5 := pow_le_pow N h0; rw [Nat.mul_pow, Nat.mul_pow] at h5; have h2 := LB_prime hc (quoH a b xh + 1)
 have h3 : LB (D ^ N) (V ^ N) (1 - (if 0 ≤ quoH a b xh + 1 then (quoH a b xh + 1) * a else (quoH a b xh + 1) * b)) := by
  refine h.mono ?_; unfold quoH
  by_cases hx : xh < 0
  ·rw [if_pos hx]; have := Int.lt_ediv_add_one_mul_self xh (show (0 : Int) < b by omega); have h6 : xh / (b : Int) < 0 := Int.ediv_lt_of_lt_mul (by omega) (by omega)
   by_cases h7 : 0 ≤ xh / (b : Int) + 1
   ·rw [if_pos h7]
    have : xh / (b : Int) + 1 = 0 := by omega
    rw [this, Int.zero_mul]
    omega
   ·rw [if_neg h7]
    omega
  ·rw [if_neg hx, if_pos (by have := Int.ediv_nonneg (show 0 ≤ xh by omega) (show (0 : Int) ≤ a by omega); omega)]; have := Int.lt_ediv_add_one_mul_self xh (show (0 : Int) < a by omega)
   omega
 have h4 := h3.mul h2; rw [show (1 : Int) - (if 0 ≤ quoH a b xh + 1 then (quoH a b xh + 1) * a else (quoH a b xh + 1) * b) + (if 0 ≤ quoH a b xh + 1 then (quoH a b xh + 1) * a else (quoH a b xh + 1) * b) = 1 by omega] at h4; unfold LB at h4; have h6 : 0 < (V * p ^ (-(quoH a b xh + 1)).toNat) ^ N := Nat.pow_pos (Nat.mul_pos hV (Nat.pow_pos hp)); rw [Nat.mul_pow] at h6; simp only [Int.reduceNeg, Int.toNat_one, Nat.pow_one, show (-1 : Int).toNat = 0 from rfl, Nat.pow_zero, Nat.mul_one] at h4
 omega
end Go.Proofs.YtkgkihichdcpmaaGreatDoor.H.Dec
end
section
namespace Go.Proofs.YtkgkihichdcpmaaGreatDoor.H.Dec
def shiftQ : List Int → Int → List Int
 | e :: t, q => (e - q) :: t
 | [], _ => []
def neg (x : List Int) : List Int := x.map fun e => -e
def Red (p r : List Int) : Prop := denP p r ≤ numP p r ∧ numP p r < (p.getD 0 0).toNat * denP p r
theorem numP_neg : ∀ (p x : List Int), numP p (neg x) = denP p x
 | [], _ => by simp [numP, denP]
 | _ :: _, [] => by simp [numP, denP, neg]
 | a :: p, e :: x => by
  have := numP_neg p x; rw [show neg (e :: x) = (-e) :: neg x from rfl, numP_cons, denP_cons, this]
theorem denP_neg : ∀ (p x : List Int), denP p (neg x) = numP p x
 | [], _ => by simp [numP, denP]
 | _ :: _, [] => by simp [numP, denP, neg]
 | a :: p, e :: x => by
  have := denP_neg p x; rw [show neg (e :: x) = (-e) :: neg x from rfl, numP_cons, denP_cons, this, Int.neg_neg]
theorem neg_neg (x : List Int) : neg (neg x) = x := by
 unfold neg; rw [List.map_map]; simp [Function.comp_def]
theorem neg_len (x : List Int) : (neg x).length = x.length := by unfold neg; rw [List.length_map]
theorem shiftQ_len (x : List Int) (q : Int) : (shiftQ x q).length = x.length := by cases x <;> rfl
theorem shiftQ_zero (x : List Int) : shiftQ x 0 = x := by cases x <;> simp [shiftQ]
theorem shiftQ_shiftQ (x : List Int) (q r : Int) : shiftQ (shiftQ x q) r = shiftQ x (q + r) := by
 cases x with
 | nil => rfl
 | cons e t => simp only [shiftQ]; congr 1; omega
theorem neg_shiftQ (x : List Int) (q : Int) : neg (shiftQ x q) = shiftQ (neg x) (-q) := by
 cases x with
 | nil => rfl
 | cons e t => simp only [shiftQ, neg, List.map_cons]; congr 1; omega
theorem cross {a : Int} (p t : List Int) (e f : Int) (h : e ≤ f) : numP (a :: p) (f :: t) * denP (a :: p) (e :: t) = a.toNat ^ (f - e).toNat * (numP (a :: p) (e :: t) * denP (a :: p) (f :: t)) := by
 rw [numP_cons, numP_cons, denP_cons, denP_cons]
 have h1 : f.toNat + (-e).toNat = (f - e).toNat + (e.toNat + (-f).toNat) := by omega
 calc a.toNat ^ f.toNat * numP p t * (a.toNat ^ (-e).toNat * denP p t) = a.toNat ^ (f.toNat + (-e).toNat) * (numP p t * denP p t) := by rw [Nat.pow_add]; ac_rfl
  _ = a.toNat ^ (f - e).toNat * (a.toNat ^ (e.toNat + (-f).toNat) * (numP p t * denP p t)) := by rw [h1, Nat.pow_add, Nat.mul_assoc]
  _ = _ := by rw [Nat.pow_add]; ac_rfl
theorem red_le {a : Int} {p t : List Int} {e f : Int} (hp : ∀ b ∈ a :: p, 2 ≤ b) (h1 : Red (a :: p) (e :: t)) (h2 : Red (a :: p) (f :: t)) : f ≤ e := by
 rcases Int.lt_or_le e f with h | h
 ·exfalso
  have ha := hp a (List.mem_cons_self ..); have hc := cross (a := a) p t e f (by omega); obtain ⟨k1, _⟩ := h1; obtain ⟨_, k2⟩ := h2; have hde := denP_pos (a :: p) (e :: t) hp; have hdf := denP_pos (a :: p) (f :: t) hp; have e1 : numP (a :: p) (f :: t) * denP (a :: p) (e :: t) < a.toNat * denP (a :: p) (f :: t) * denP (a :: p) (e :: t) := Nat.mul_lt_mul_of_pos_right k2 hde; have e2 : a.toNat * denP (a :: p) (f :: t) * denP (a :: p) (e :: t) ≤ a.toNat * denP (a :: p) (f :: t) * numP (a :: p) (e :: t) := Nat.mul_le_mul_left _ k1
  have e3 : a.toNat * denP (a :: p) (f :: t) * numP (a :: p) (e :: t) ≤ a.toNat ^ (f - e).toNat * (numP (a :: p) (e :: t) * denP (a :: p) (f :: t)) := by
   rw [Nat.mul_assoc, Nat.mul_comm (denP _ _)]
   apply Nat.mul_le_mul_right
   rw [show (f - e).toNat = ((f - e).toNat - 1) + 1 by omega, Nat.pow_succ]; exact Nat.le_mul_of_pos_left _ (Nat.pow_pos (by omega))
  omega
 ·exact h
theorem red_unique {p x : List Int} (hp : ∀ b ∈ p, 2 ≤ b) (hl : x.length = p.length) {q r : Int} (h1 : Red p (shiftQ x q)) (h2 : Red p (shiftQ x r)) : shiftQ x q = shiftQ x r := by
 cases x with
 | nil => rfl
 | cons e t =>
  cases p with
  | nil => simp at hl
  | cons a p =>
   simp only [shiftQ] at *; have := red_le hp h1 h2; have := red_le hp h2 h1
   congr 1
   omega
theorem red_floor {a : Int} {p t : List Int} {e q : Int} (hp : ∀ b ∈ a :: p, 2 ≤ b)
  (h1 : denP (a :: p) (e :: t) * a.toNat ^ q.toNat ≤ numP (a :: p) (e :: t) * a.toNat ^ (-q).toNat) (h2 : numP (a :: p) (e :: t) * a.toNat ^ (-(q + 1)).toNat < denP (a :: p) (e :: t) * a.toNat ^ (q + 1).toNat) : Red (a :: p) (shiftQ (e :: t) q) := by
 have ha := hp a (List.mem_cons_self ..)
 have hpos : ∀ m, 0 < a.toNat ^ m := fun m => Nat.pow_pos (by omega)
 unfold Red; simp only [shiftQ, List.getD_cons_zero]; simp only [numP_cons, denP_cons] at *
 constructor
 ·obtain ⟨c, hc1, hc2⟩ : ∃ c : Nat, (-e).toNat + q.toNat = (-(e - q)).toNat + c ∧ e.toNat + (-q).toNat = (e - q).toNat + c := ⟨(-e).toNat + q.toNat - (-(e - q)).toNat, by omega, by omega⟩
  apply Nat.le_of_mul_le_mul_right (c := a.toNat ^ c) _ (hpos c)
  calc a.toNat ^ (-(e - q)).toNat * denP p t * a.toNat ^ c = a.toNat ^ ((-(e - q)).toNat + c) * denP p t := by rw [Nat.pow_add]; ac_rfl
   _ = a.toNat ^ (-e).toNat * denP p t * a.toNat ^ q.toNat := by rw [← hc1, Nat.pow_add]; ac_rfl
   _ ≤ a.toNat ^ e.toNat * numP p t * a.toNat ^ (-q).toNat := h1
   _ = a.toNat ^ ((e - q).toNat + c) * numP p t := by rw [← hc2, Nat.pow_add]; ac_rfl
   _ = _ := by rw [Nat.pow_add]; ac_rfl
 ·obtain ⟨c, hc1, hc2⟩ : ∃ c : Nat, e.toNat + (-(q + 1)).toNat + 1 = (e - q).toNat + c ∧ (-e).toNat + (q + 1).toNat + 1 = (-(e - q)).toNat + 1 + c := ⟨e.toNat + (-(q + 1)).toNat + 1 - (e - q).toNat, by omega, by omega⟩
  apply Nat.lt_of_mul_lt_mul_right (a := a.toNat ^ c)
  calc a.toNat ^ (e - q).toNat * numP p t * a.toNat ^ c = a.toNat ^ ((e - q).toNat + c) * numP p t := by rw [Nat.pow_add]; ac_rfl
   _ = a.toNat ^ e.toNat * numP p t * a.toNat ^ (-(q + 1)).toNat * a.toNat := by rw [← hc1, Nat.pow_add, Nat.pow_add, Nat.pow_one]; ac_rfl
   _ < a.toNat ^ (-e).toNat * denP p t * a.toNat ^ (q + 1).toNat * a.toNat := Nat.mul_lt_mul_of_pos_right h2 (by omega)
   _ = a.toNat ^ ((-(e - q)).toNat + 1 + c) * denP p t := by rw [← hc2, Nat.pow_add, Nat.pow_add, Nat.pow_one]; ac_rfl
   _ = _ := by rw [Nat.pow_add, Nat.pow_add, Nat.pow_one]; ac_rfl
theorem numP_zeros : ∀ (p t : List Int), (∀ e ∈ t, e = 0) → numP p t = 1 ∧ denP p t = 1
 | [], _, _ => by simp [numP, denP]
 | _ :: _, [], _ => by simp [numP, denP]
 | a :: p, e :: t, h => by
  have h0 := h e (List.mem_cons_self ..); subst h0
  obtain ⟨h1, h2⟩ := numP_zeros p t fun f hf => h f (List.mem_cons_of_mem _ hf)
  rw [numP_cons, denP_cons, h1, h2]; simp
theorem red_zeros {p t : List Int} {a : Int} (ht : ∀ e ∈ t, e = 0) (ha : 2 ≤ a) : Red (a :: p) (0 :: t) := by
 obtain ⟨h1, h2⟩ := numP_zeros (a :: p) (0 :: t) (fun e he => (List.mem_cons.1 he).elim id (ht e)); unfold Red; rw [h1, h2, List.getD_cons_zero]
 omega
def compl : List Int → List Int
 | e :: t => (1 - e) :: neg t
 | [] => []
theorem compl_shift (x : List Int) : compl x = shiftQ (neg x) (-1) := by
 cases x with
 | nil => rfl
 | cons e t => simp only [compl, neg, shiftQ, List.map_cons]; congr 1; omega
theorem red_compl {p r : List Int} (hp : ∀ b ∈ p, 2 ≤ b) (hc : Cops p) (hl : r.length = p.length) (hr : Red p r) (hz : r.any (fun e => e != 0) = true) : Red p (compl r) := by
 cases r with
 | nil => simp at hz
 | cons e t =>
  cases p with
  | nil => simp at hl
  | cons a p =>
   have ha := hp a (List.mem_cons_self ..)
   have hne : numP (a :: p) (e :: t) ≠ denP (a :: p) (e :: t) := by
    intro he; have h0 := numP_zeros (a :: p) ((e :: t).map fun _ => (0 : Int)) (fun f hf => by obtain ⟨_, _, h⟩ := List.mem_map.1 hf; exact h.symm); have h1 := same_of_eq (a :: p) (e :: t) ((e :: t).map fun _ => (0 : Int)) hp hc hl (by rw [List.length_map]; exact hl) (by rw [h0.1, h0.2]; omega); rw [h1] at hz; obtain ⟨y, hy, hy2⟩ := List.any_eq_true.1 hz; obtain ⟨_, _, h⟩ := List.mem_map.1 hy; subst h; simp at hy2
   obtain ⟨h1, h2⟩ := hr; rw [List.getD_cons_zero] at h2
   have key : ∀ N D : Nat, D < N → N < a.toNat * D → numP (a :: p) (e :: t) = N → denP (a :: p) (e :: t) = D → Red (a :: p) (compl (e :: t)) := by
    intro N D k1 k2 k3 k4; unfold Red; simp only [compl, List.getD_cons_zero]; have c1 := cross (a := a) p (neg t) (-e) (1 - e) (by omega); have n1 := numP_neg (a :: p) (e :: t); have d1 := denP_neg (a :: p) (e :: t); rw [show neg (e :: t) = (-e) :: neg t from rfl] at n1 d1; rw [n1, d1, k3, k4, show (1 - e - -e).toNat = 1 by omega, Nat.pow_one] at c1
    obtain ⟨N', hN'⟩ : ∃ N', N' = numP (a :: p) ((1 - e) :: neg t) := ⟨_, rfl⟩
    obtain ⟨D', hD'⟩ : ∃ D', D' = denP (a :: p) ((1 - e) :: neg t) := ⟨_, rfl⟩
    rw [← hN', ← hD'] at c1 ⊢
    have hD0 : 0 < D' := by rw [hD']; exact denP_pos _ _ hp
    have hDp : 0 < N := by omega
    constructor
    ·apply Nat.le_of_mul_le_mul_right (c := N) _ hDp
     calc D' * N ≤ D' * (a.toNat * D) := Nat.mul_le_mul_left _ (Nat.le_of_lt k2)
      _ = N' * N := by rw [c1]; ac_rfl
    ·apply Nat.lt_of_mul_lt_mul_right (a := N)
     calc N' * N = a.toNat * D' * D := by rw [c1]; ac_rfl
      _ < a.toNat * D' * N := Nat.mul_lt_mul_of_pos_left k1 (Nat.mul_pos (by omega) hD0)
   exact key _ _ (by omega) h2 rfl rfl
theorem compl_compl (r : List Int) : compl (compl r) = r := by
 cases r with
 | nil => rfl
 | cons e t =>
  simp only [compl, neg_neg]
  congr 1
  omega
theorem compl_ne (r : List Int) (h : r ≠ []) : compl r ≠ r := by
 cases r with
 | nil => exact absurd rfl h
 | cons e t =>
  simp only [compl]; intro h; injection h with h1 _
  omega
theorem compl_any (r : List Int) (h : r.any (fun e => e != 0) = true) (h1 : r.tail.any (fun e => e != 0) = true) : (compl r).any (fun e => e != 0) = true := by
 cases r with
 | nil => simp at h
 | cons e t =>
  obtain ⟨y, hy, hy2⟩ := List.any_eq_true.1 h1; refine List.any_eq_true.2 ⟨-y, List.mem_cons_of_mem _ (List.mem_map.2 ⟨y, hy, rfl⟩), ?_⟩; simp at hy2 ⊢; exact hy2
theorem red_tail {p r : List Int} (hp : ∀ b ∈ p, 2 ≤ b) (hl : r.length = p.length) (hr : Red p r) (h : r.any (fun e => e != 0) = true) : r.tail.any (fun e => e != 0) = true := by
 cases r with
 | nil => simp at h
 | cons e t =>
  cases p with
  | nil => simp at hl
  | cons a p =>
   have ha := hp a (List.mem_cons_self ..)
   cases ht : t.any (fun e => e != 0) with
   | true => exact ht
   | false =>
    exfalso
    have hz : ∀ f ∈ t, f = 0 := fun f hf => by
     have := List.any_eq_false.1 ht f hf
     simpa using this
    have h0 := red_zeros (p := p) hz ha; have h1 := red_unique (x := e :: t) hp hl (q := 0) (r := e) (by simpa [shiftQ] using hr) (by simpa [shiftQ] using h0); simp only [shiftQ] at h1; injection h1 with h2 _
    have he : e = 0 := by omega
    obtain ⟨y, hy, hy2⟩ := List.any_eq_true.1 h
    rcases List.mem_cons.1 hy with h | h
    ·rw [h, he] at hy2; simp at hy2
    ·rw [hz y h] at hy2; simp at hy2
end Go.Proofs.YtkgkihichdcpmaaGreatDoor.H.Dec
end
section
namespace Go.Proofs.YtkgkihichdcpmaaGreatDoor.H.Dec
def logTab : List (Nat × Nat) := [(2, 67108864), (3, 106365032), (5, 155821956), (7, 188398399), (11, 232158526), (13, 248332305), (17, 274304987), (19, 285073589), (23, 303571104), (29, 326013585), (31, 332470486), (37, 349600497), (41, 359539228), (43, 364150463), (47, 372762147), (53, 384394234), (59, 394777492), (61, 398005045), (67, 407088354), (71, 412702543), (73, 415392094), (79, 423039564), (83, 427821654), (89, 434579114), (97, 442912653)]
def logA (a : Int) : Nat := (logTab.lookup a.toNat).getD 0
def logB (a : Int) : Nat := if a = 2 then logA a else logA a + 1
def isPr (a : Int) : Prop := a.toNat ∈ logTab.map (·.1) ∧ 0 ≤ a
theorem certs_all : logTab.all (fun x => decide (x.1 = 2) || certB 26 x.1 (Nat.log2 x.1) x.2) = true := by decide +kernel
theorem lookups : logTab.all (fun x => decide (logTab.lookup x.1 = some x.2)) = true := by decide +kernel
theorem log_cert {a : Int} (h : isPr a) : Cert (2 ^ 26) a.toNat (logA a) (logB a) := by
 obtain ⟨x, hx, hxa⟩ := List.mem_map.1 h.1; have h1 := List.all_eq_true.1 certs_all x hx; have h2 := of_decide_eq_true (List.all_eq_true.1 lookups x hx)
 have hA : logA a = x.2 := by unfold logA; rw [← hxa, h2]; rfl
 unfold logB; rw [hA]
 by_cases h3 : a = 2
 ·subst h3; rw [if_pos rfl]
  have e : x.2 = 67108864 := by
   have : x.1 = 2 := hxa; rw [this] at h2; exact (Option.some.inj h2).symm
  rw [e]; exact cert_two _
 ·rw [if_neg h3, ← hxa]
  have : ¬ x.1 = 2 := fun e => h3 (by have := h.2; omega)
  rw [decide_eq_false this, Bool.false_or] at h1; exact cert_of h1
theorem log_certs : ∃ N, 0 < N ∧ ∀ a, isPr a → Cert N a.toNat (logA a) (logB a) := ⟨2 ^ 26, by decide, fun _ h => log_cert h⟩
theorem log_pos_all : logTab.all (fun x => decide (67108864 ≤ x.2) && decide (x.2 ≤ 500000000) && decide (2 ≤ x.1) && decide (x.1 ≤ 97)) = true := by decide +kernel
theorem log_bounds {a : Int} (h : isPr a) : 67108864 ≤ logA a ∧ logA a ≤ 500000000 ∧ 2 ≤ a ∧ a ≤ 97 := by
 obtain ⟨x, hx, hxa⟩ := List.mem_map.1 h.1; have h1 := List.all_eq_true.1 log_pos_all x hx; have h2 := of_decide_eq_true (List.all_eq_true.1 lookups x hx)
 have hA : logA a = x.2 := by unfold logA; rw [← hxa, h2]; rfl
 simp only [Bool.and_eq_true, decide_eq_true_eq] at h1; have := h.2; rw [hA]
 omega
def Margin (a lo hi : Int) : Prop := lo / a * a + 1000 ≤ lo ∧ hi + 1000 ≤ (lo / a + 1) * a ∧ -95 ≤ lo / a ∧ lo / a ≤ 95
def marginB (a lo hi : Int) : Bool := let k := lo / a; decide (k * a + 1000 ≤ lo) && decide (hi + 1000 ≤ (k + 1) * a) && decide (-95 ≤ k) && decide (k ≤ 95)
theorem marginB_ok {a lo hi : Int} (h : marginB a lo hi = true) : Margin a lo hi := by
 unfold marginB at h; simp only [Bool.and_eq_true, decide_eq_true_eq] at h; exact ⟨h.1.1.1, h.1.1.2, h.1.2, h.2⟩
def chkT (a : Int) (es : List Int) : List Int → Int → Int → Bool → Bool
 | [], lo, hi, z => z || marginB a lo hi
 | b :: p, lo, hi, z => es.all fun e => chkT a es p (lo + if 0 ≤ e then e * logA b else e * logB b) (hi + if 0 ≤ e then e * logB b else e * logA b) (z && e == 0)
def tens : List Int := [-9, -8, -7, -6, -5, -4, -3, -2, -1, 0, 1, 2, 3, 4, 5, 6, 7, 8, 9]
end Go.Proofs.YtkgkihichdcpmaaGreatDoor.H.Dec
end
section
namespace Go.Proofs.YtkgkihichdcpmaaGreatDoor.H
open Go.RowKit Go.Shelf Go.Proofs.YtkgkihichdcpmaaGreatDoorW.PrintWords Go.Proofs.YtkgkihichdcpmaaGreatDoorW.PrintLast Go.Proofs.YtkgkihichdcpmaaGreatDoorW.PrintMore
open Dec
theorem no32_digits (n : Nat) : ∀ c ∈ Lib.decDigits n, c ≠ 32 ∧ c ≠ 45 := by
 intro c hc; have := digits_range n c hc
 constructor <;> (rintro rfl; revert this; decide)
theorem itoa_ok (n : Int) : (∀ c ∈ Lib.itoa n, c ≠ 32) ∧ Lib.itoa n ≠ [] := by
 unfold Lib.itoa
 split
 ·refine ⟨fun c hc => ?_, by simp⟩
  rcases List.mem_cons.1 hc with rfl | h
  ·decide
  ·exact (no32_digits _ c h).1
 ·refine ⟨fun c hc => (no32_digits _ c hc).1, fun h => ?_⟩; have := digits_pos n.toNat; rw [h] at this; simp at this
theorem itoa_inj {n m : Int} (h : Lib.itoa n = Lib.itoa m) : n = m := by
 have key : ∀ (a b : Nat), Lib.decDigits a = Lib.decDigits b → a = b := fun a b h => by rw [← dval_digits a, h, dval_digits]
 have key2 : ∀ (a b : Nat), 45 :: Lib.decDigits a ≠ Lib.decDigits b := fun a b h => by
  have := (no32_digits b 45 (by rw [← h]; exact List.mem_cons_self ..)).2; exact this rfl
 unfold Lib.itoa at h
 by_cases h1 : n < 0 <;> by_cases h2 : m < 0
 ·rw [if_pos h1, if_pos h2] at h; injection h with _ h; have := key _ _ h
  omega
 ·rw [if_pos h1, if_neg h2] at h; exact absurd h (key2 _ _)
 ·rw [if_neg h1, if_pos h2] at h; exact absurd h.symm (key2 _ _)
 ·rw [if_neg h1, if_neg h2] at h; have := key _ _ h
  omega
theorem split32 : ∀ (x y T U : List UInt8), (∀ c ∈ x, c ≠ 32) → (∀ c ∈ y, c ≠ 32) → (T = [] ∨ ∃ T', T = 32 :: T') → (U = [] ∨ ∃ U', U = 32 :: U') → x ++ T = y ++ U → x = y ∧ T = U
 | [], [], T, U, _, _, _, _, h => ⟨rfl, h⟩
 | [], b :: y, T, U, _, hy, hT, _, h => by
  exfalso
  rcases hT with rfl | ⟨T', rfl⟩
  ·simp at h
  ·simp only [List.nil_append, List.cons_append] at h; injection h with h1 _; exact hy b (List.mem_cons_self ..) h1.symm
 | a :: x, [], T, U, hx, _, _, hU, h => by
  exfalso
  rcases hU with rfl | ⟨U', rfl⟩
  ·simp at h
  ·simp only [List.nil_append, List.cons_append] at h; injection h with h1 _; exact hx a (List.mem_cons_self ..) h1
 | a :: x, b :: y, T, U, hx, hy, hT, hU, h => by
  simp only [List.cons_append] at h; injection h with h1 h2; obtain ⟨h3, h4⟩ := split32 x y T U (fun c hc => hx c (List.mem_cons_of_mem _ hc)) (fun c hc => hy c (List.mem_cons_of_mem _ hc)) hT hU h2; exact ⟨by rw [h1, h3], h4⟩
theorem tail32 (r : List (List UInt8)) : Lib.joinTail [32] r = [] ∨ ∃ T', Lib.joinTail [32] r = 32 :: T' := by
 cases r with
 | nil => exact .inl rfl
 | cons x r => exact .inr ⟨x ++ Lib.joinTail [32] r, by simp [Lib.joinTail]⟩
theorem joinTail_inj : ∀ (r s : List (List UInt8)), (∀ x ∈ r, ∀ c ∈ x, c ≠ 32) → (∀ x ∈ s, ∀ c ∈ x, c ≠ 32) → Lib.joinTail [32] r = Lib.joinTail [32] s → r = s
 | [], [], _, _, _ => rfl
 | [], y :: s, _, _, h => by simp [Lib.joinTail] at h
 | x :: r, [], _, _, h => by simp [Lib.joinTail] at h
 | x :: r, y :: s, hr, hs, h => by
  have e : ∀ (z : List UInt8) (t : List (List UInt8)), Lib.joinTail [32] (z :: t) = 32 :: (z ++ Lib.joinTail [32] t) := fun z t => by simp [Lib.joinTail]
  rw [e, e] at h; injection h with _ h; obtain ⟨h1, h2⟩ := split32 x y _ _ (hr x (List.mem_cons_self ..)) (hs y (List.mem_cons_self ..)) (tail32 r) (tail32 s) h; rw [h1, joinTail_inj r s (fun z hz => hr z (List.mem_cons_of_mem _ hz)) (fun z hz => hs z (List.mem_cons_of_mem _ hz)) h2]
theorem join_inj (xs ys : List Int) (h : Lib.join (xs.map Lib.itoa) [32] = Lib.join (ys.map Lib.itoa) [32]) : xs = ys := by
 have ok : ∀ (zs : List Int), ∀ x ∈ zs.map Lib.itoa, ∀ c ∈ x, c ≠ 32 := fun zs x hx => by
  obtain ⟨n, _, rfl⟩ := List.mem_map.1 hx; exact (itoa_ok n).1
 have ne : ∀ (n : Int) (t : List UInt8), Lib.itoa n ++ t ≠ [] := fun n t e => (itoa_ok n).2 (List.append_eq_nil_iff.1 e).1
 have fin : xs.map Lib.itoa = ys.map Lib.itoa → xs = ys := fun e => by
  have := congrArg List.length e; rw [List.length_map, List.length_map] at this
  apply List.ext_getElem this
  intro i h1 h2
  have e2 : (xs.map Lib.itoa)[i]'(by simpa using h1) = (ys.map Lib.itoa)[i]'(by simpa using h2) := by simp only [e]
  rw [List.getElem_map, List.getElem_map] at e2; exact itoa_inj e2
 cases xs with
 | nil =>
  cases ys with
  | nil => rfl
  | cons b ys =>
   rw [List.map_nil, List.map_cons, Lib.join_nil, Lib.join_cons] at h; exact absurd h.symm (ne _ _)
 | cons a xs =>
  cases ys with
  | nil =>
   rw [List.map_nil, List.map_cons, Lib.join_nil, Lib.join_cons] at h; exact absurd h (ne _ _)
  | cons b ys =>
   have okx := ok (a :: xs); have oky := ok (b :: ys)
   apply fin
   rw [List.map_cons, List.map_cons] at *; rw [Lib.join_cons, Lib.join_cons] at h; obtain ⟨h1, h2⟩ := split32 _ _ _ _ (okx _ (List.mem_cons_self ..)) (oky _ (List.mem_cons_self ..)) (tail32 _) (tail32 _) h; rw [h1, joinTail_inj _ _ (fun z hz => okx z (List.mem_cons_of_mem _ hz)) (fun z hz => oky z (List.mem_cons_of_mem _ hz)) h2]
theorem txt_inj {x y : List Int} (h : txt x = txt y) : x = y := by
 apply join_inj
 unfold txt textL at h; have h2 := congrArg (fun s => s.data.toList) h
 simpa using h2
theorem joinTail_len : ∀ (r : List (List UInt8)), (∀ x ∈ r, x.length ≤ 21) → (Lib.joinTail [32] r).length ≤ 22 * r.length
 | [], _ => by simp [Lib.joinTail]
 | x :: r, h => by
  have e : Lib.joinTail [32] (x :: r) = 32 :: (x ++ Lib.joinTail [32] r) := by simp [Lib.joinTail]
  have h1 := joinTail_len r fun z hz => h z (List.mem_cons_of_mem _ hz)
  have h2 := h x (List.mem_cons_self ..); rw [e, List.length_cons, List.length_append, List.length_cons]
  omega
theorem textOk_right {n : Nat} {x : List Int} (hn : n ≤ 60) (hl : x.length = n) (hx : ∀ e ∈ x, -1000000000 ≤ e ∧ e ≤ 1000000000) : TextOk x := by
 refine ⟨by omega, List.all_eq_true.2 fun e he => ?_, ?_⟩
 ·have := hx e he; unfold fitsB; simp only [Bool.and_eq_true, decide_eq_true_eq]
  omega
 ·have e : (x.map itoaB).map (·.data.toList) = x.map Lib.itoa := by simp [itoaB, Function.comp_def]
  rw [e]
  show (Lib.join (x.map Lib.itoa) [32]).length ≤ 100000
  have h21 : ∀ z ∈ x.map Lib.itoa, z.length ≤ 21 := fun z hz => by
   obtain ⟨m, hm, rfl⟩ := List.mem_map.1 hz; have := hx m hm; exact Lib.itoa_length_le m (by omega) (by omega)
  cases x with
  | nil => simp [Lib.join_nil]
  | cons a x =>
   rw [List.map_cons] at *; rw [Lib.join_cons, List.length_append]; have h1 := h21 _ (List.mem_cons_self ..)
   have h2 := joinTail_len (x.map Lib.itoa) fun z hz => h21 z (List.mem_cons_of_mem _ hz)
   rw [List.length_map] at h2; simp only [List.length_cons] at hl
   omega
theorem dd_spec (l : List (List Int)) : ∀ acc : List (List Int), acc.Nodup → (l.foldl ddStep acc).Nodup ∧ ∀ y, y ∈ l.foldl ddStep acc ↔ y ∈ l ∨ y ∈ acc := by
 induction l with
 | nil => intro acc h; exact ⟨h, fun y => by simp⟩
 | cons x l ih =>
  intro acc h
  have hs : (ddStep acc x).Nodup ∧ ∀ y, y ∈ ddStep acc x ↔ y = x ∨ y ∈ acc := by
   unfold ddStep
   by_cases h1 : acc.any (fun y => decide (txt y = txt x)) = true
   ·rw [if_pos h1]; obtain ⟨y, hy, hy2⟩ := List.any_eq_true.1 h1; have e := txt_inj (of_decide_eq_true hy2); exact ⟨h, fun z => ⟨.inr, fun hz => hz.elim (fun hz => by rw [hz, ← e]; exact hy) id⟩⟩
   ·rw [if_neg h1]
    have hx : x ∉ acc := fun hx => h1 (List.any_eq_true.2 ⟨x, hx, decide_eq_true rfl⟩)
    refine ⟨List.nodup_append.2 ⟨h, by simp, fun a ha b hb e => ?_⟩, fun z => ?_⟩
    ·rw [List.mem_singleton] at hb; rw [e, hb] at ha; exact hx ha
    ·simp only [List.mem_append, List.mem_singleton]; exact Or.comm
  obtain ⟨h3, h4⟩ := ih (ddStep acc x) hs.1; refine ⟨h3, fun y => ?_⟩; rw [List.foldl_cons, h4 y, hs.2 y, List.mem_cons]
  constructor
  ·rintro (h | h | h)
   ·exact .inl (.inr h)
   ·exact .inl (.inl h)
   ·exact .inr h
  ·rintro ((h | h) | h)
   ·exact .inr (.inl h)
   ·exact .inl h
   ·exact .inr (.inr h)
theorem dd_mem (l : List (List Int)) : (dd l).Nodup ∧ ∀ y, y ∈ dd l ↔ y ∈ l := by
 obtain ⟨h1, h2⟩ := dd_spec l [] .nil; exact ⟨h1, fun y => by unfold dd; rw [h2 y]; simp⟩
end Go.Proofs.YtkgkihichdcpmaaGreatDoor.H
end
section
namespace Go.Proofs.YtkgkihichdcpmaaGreatDoor.H
open Go.RowKit Go.Shelf Go.Proofs.YtkgkihichdcpmaaGreatDoorW.PrintWords Go.Proofs.YtkgkihichdcpmaaGreatDoorW.PrintLast Go.Proofs.YtkgkihichdcpmaaGreatDoorW.PrintMore
open Dec
set_option linter.unusedVariables false
theorem dec_list (n : Nat) : (dec n).toList = Lib.decDigits n := by
 rw [ByteArray.toList_eq]; unfold dec; simp
theorem digits_mono {a b : Nat} (h : (Lib.decDigits a).length < (Lib.decDigits b).length) : a < b := by
 rcases Nat.lt_or_ge a b with h1 | h1
 ·exact h1
 ·exfalso
  have h2 := digits_lt a
  by_cases hb : b = 0
  ·subst hb; have : (Lib.decDigits 0).length ≤ 1 := digits_le_of_lt (by decide) (by omega); have := digits_pos a
   omega
  ·have h3 := digits_ge b hb; have h4 : 10 ^ (Lib.decDigits a).length ≤ 10 ^ ((Lib.decDigits b).length - 1) := Nat.pow_le_pow_right (by omega) (by omega)
   omega
theorem dcmp_dec (a b : Nat) (ha : (Lib.decDigits a).length ≤ 1000000) (hb : (Lib.decDigits b).length ≤ 1000000) : decimal_Compare.f (dec a) (dec b) = some (if a < b then -1 else if b < a then 1 else 0) := by
 have less : ∀ x y : Nat, (Lib.decDigits x).length = (Lib.decDigits y).length → Op.bytesLess (dec x).toList (dec y).toList = decide (x < y) := fun x y h => by
  rw [dec_list, dec_list, (less_digits _ _ _ rfl h.symm (digits_range x) (digits_range y) 0 0).2.1]; have e := dval_digits x; have f := dval_digits y; unfold dval at e f; rw [e, f]
 unfold decimal_Compare.f; rw [dec_size, dec_size]
 by_cases h : (Lib.decDigits a).length = (Lib.decDigits b).length
 ·rw [if_pos (by omega), less a b h, less b a h.symm]
  by_cases h1 : a < b
  ·rw [if_pos (by simp [h1]), if_pos h1]
  ·rw [if_neg (by simp [h1]), if_neg h1]
   by_cases h2 : b < a
   ·rw [if_pos (by simp [h2]), if_pos h2]
   ·rw [if_neg (by simp [h2]), if_neg h2]
 ·rw [if_neg (by omega)]
  have hw : wrap64 (((Lib.decDigits a).length : Int) - ((Lib.decDigits b).length : Int)) = ((Lib.decDigits a).length : Int) - ((Lib.decDigits b).length : Int) := by unfold wrap64; omega
  rw [hw]
  by_cases h1 : (Lib.decDigits a).length < (Lib.decDigits b).length
  ·have := digits_mono h1; rw [if_pos this]
   congr 1
   unfold mn mx
   split <;> split <;> omega
  ·have h2 : (Lib.decDigits b).length < (Lib.decDigits a).length := by omega
   have := digits_mono h2; rw [if_neg (by omega), if_pos this]
   congr 1
   unfold mn mx
   split <;> split <;> omega
structure PrimesOk (p : List Int) : Prop where
 chk : prCk.f 300 p = some 0
 two : ∀ a ∈ p, 2 ≤ a ∧ a ≤ 97
 inc : Cops p
theorem PrimesOk.two' {p : List Int} (h : PrimesOk p) : ∀ a ∈ p, 2 ≤ a := fun a ha => (h.two a ha).1
theorem part_le (B : Nat) (hB : ∀ a e : Nat, a ≤ 97 → e ≤ 1000 → a ^ e ≤ B) (p : List Int) : ∀ (x : List Int), (∀ a ∈ p, 2 ≤ a ∧ a ≤ 97) → (∀ e ∈ x, -1000 ≤ e ∧ e ≤ 1000) → numP p x ≤ B ^ p.length ∧ denP p x ≤ B ^ p.length := by
 have hB1 : 1 ≤ B := hB 1 0 (by omega) (by omega)
 induction p with
 | nil => intro x _ _; simp [numP, denP]
 | cons a p ih =>
  intro x hp hx
  cases x with
  | nil =>
   have : 0 < B ^ (a :: p).length := Nat.pow_pos (by omega); simp only [numP, denP]
   omega
  | cons e x =>
   obtain ⟨i1, i2⟩ := ih x (fun b hb => hp b (List.mem_cons_of_mem _ hb)) (fun b hb => hx b (List.mem_cons_of_mem _ hb)); have ha := hp a (List.mem_cons_self ..); have he := hx e (List.mem_cons_self ..); rw [numP_cons, denP_cons, List.length_cons, Nat.pow_succ, Nat.mul_comm (B ^ p.length) B]; exact ⟨Nat.mul_le_mul (hB _ _ (by omega) (by omega)) i1, Nat.mul_le_mul (hB _ _ (by omega) (by omega)) i2⟩
theorem pw_le (T c n : Nat) (h : n ≤ 6) (hT : 1 ≤ T) : (T ^ c) ^ n ≤ T ^ (c * 6) := by
 rw [← Nat.pow_mul]; exact Nat.pow_le_pow_right hT (Nat.mul_le_mul_left c h)
theorem part_digits {p x : List Int} (hp : ∀ a ∈ p, 2 ≤ a ∧ a ≤ 97) (hx : ∀ e ∈ x, -1000 ≤ e ∧ e ≤ 1000) (h6 : p.length ≤ 6) : (Lib.decDigits (numP p x)).length ≤ 15000 ∧ (Lib.decDigits (denP p x)).length ≤ 15000 := by
 obtain ⟨k1, k2⟩ := part_le _ (fun a e h1 h2 => pow_lt h1 h2) p x hp hx; have hle := pw_le 10 2000 p.length h6 (by omega); have d1 := digits10 (Nat.le_trans k1 hle); have d2 := digits10 (Nat.le_trans k2 hle)
 omega
theorem checkAll_two' {p x y : List Int} (hp : prCk.f 300 p = some 0) (hx : RightX p.length x) (hy : RightX p.length y) (k : Nat) (hk : 400 ≤ k) : mzCA.f k p [x, y] = some 0 := by
 have hp6 := primeCheck_zero hp; unfold mzCA.f; rw [at_rounds (g := fun k => prCk.f k p) (fun k => prCk.mono p k) (show 300 ≤ k by omega) hp]; simp only [Option.bind_some, if_true]
 have h0 : mzCA.l0 k p [x, y] (([x, y].length : Nat) : Int) 0 = some 0 := right_l0 p hp6 [x, y] (by simp) (fun z hz => by
  rcases List.mem_cons.1 hz with rfl | hz
  ·exact hx
  ·rw [List.mem_singleton.1 hz]; exact hy) 2 0 (by simp) (by simp) k (by omega)
 exact h0
theorem compare_f {p x y : List Int} (hp : PrimesOk p) (hx : RightX p.length x) (hy : RightX p.length y) (k : Nat) (hk : 2000000000 ≤ k) : monzo_Compare.f k p x y = some (cmpP p x y, 0) := by
 have h6 := primeCheck_zero hp.chk; obtain ⟨nx, dx⟩ := part_digits hp.two hx.2 h6; obtain ⟨ny, dy⟩ := part_digits hp.two hy.2 h6; have hxl := hx.1; have hyl := hy.1; have s1 := sides_dec p x hp.two hx.2 hxl (by omega) k hk; have s2 := sides_dec p y hp.two hy.2 hyl (by omega) k hk; have m1 : deMu.f k (dec (numP p x)) (dec (denP p y)) = some (dec (numP p x * denP p y)) := mul_room (by omega) (by omega) k (by omega); have m2 : deMu.f k (dec (numP p y)) (dec (denP p x)) = some (dec (numP p y * denP p x)) := mul_room (by omega) (by omega) k (by omega); have g1 := digits_mul (numP p x) (denP p y); have g2 := digits_mul (numP p y) (denP p x); have c : decimal_Compare.f (dec (numP p x * denP p y)) (dec (numP p y * denP p x)) = some (cmpP p x y) := dcmp_dec _ _ (by omega) (by omega); have ck := checkAll_two' hp.chk hx hy k (by omega)
 have tie : ∀ {A : Option Int} {S T : Option (ByteArray × ByteArray)}, A = some 0 → S = some (dec (numP p x), dec (denP p x)) → T = some (dec (numP p y), dec (denP p y)) →
   (A.bind fun t => if t = 0 then S.bind fun s => T.bind fun u => (deMu.f k s.1 u.2).bind fun v => (deMu.f k u.1 s.2).bind fun z => (decimal_Compare.f v z).bind fun r => some (r, (0 : Int)) else none) = some (cmpP p x y, 0) := by
  intro A S T hA hS hT; rw [hA, hS, hT, Option.bind_some, if_pos rfl, Option.bind_some, Option.bind_some, m1, Option.bind_some, m2, Option.bind_some, c, Option.bind_some]
 unfold monzo_Compare.f; exact tie ck s1 s2
end Go.Proofs.YtkgkihichdcpmaaGreatDoor.H
end
section
namespace Go.Proofs.YtkgkihichdcpmaaGreatDoor.H
open Go.RowKit Go.Shelf Go.Proofs.YtkgkihichdcpmaaGreatDoorW.PrintWords Go.Proofs.YtkgkihichdcpmaaGreatDoorW.PrintLast Go.Proofs.YtkgkihichdcpmaaGreatDoorW.PrintMore
open Dec
set_option linter.unusedVariables false
theorem onceOk_sort {p : List Int} {l : List (List Int)} (hp : PrimesOk p) (hl : l.length ≤ 1000) (hr : ∀ x ∈ l, RightX p.length x) : OnceOk p l (sortP p l) := by
 have h6 := primeCheck_zero hp.chk
 obtain ⟨s1, s2⟩ := sortP_spec hp.two' hp.inc l fun y hy => (hr y hy).1
 obtain ⟨d1, d2⟩ := dd_mem l; have hs : (sortP p l).Nodup := sorted_nodup (ltP_irr p) s1
 have hm : ∀ i : Fin (sortP p l).length, (sortP p l).getD i.val [] ∈ l := fun i => by
  rw [List.getD_eq_getElem?_getD, List.getElem?_eq_getElem i.isLt]; exact (s2 _).1 (List.getElem_mem _)
 refine ⟨hl, fun x hx => textOk_right (by omega) (hr x hx).1 (fun e he => by have := (hr x hx).2 e he; omega), perm_of_mem d1 hs fun y => by rw [d2 y, s2 y], hs, fun i j => ⟨2000000000, ?_⟩⟩; rw [compare_f hp (hr _ (hm i)) (hr _ (hm j)) _ (Nat.le_refl _), cmpP_places s1 i j]
end Go.Proofs.YtkgkihichdcpmaaGreatDoor.H
end
