/- The structs of the program as Lean structures: deep, and annotated with where slices lie. PRINTED by a program of this session's own (gen_data.py). -/
import Derived.Test.YtdckgfhdkehlmaaGreatV
namespace Go.Proofs.YtdckgfhdkehlmaaGreat
open Go.RowKit QD
structure Core where
  pC : Int
  r0 : Int
  r1 : Int
  r2 : Int
  r3 : Int
deriving DecidableEq, Inhabited
def Core.cells (x : Core) : List Value := [.int .i64 x.pC, .int .i64 x.r0, .int .i64 x.r1, .int .i64 x.r2, .int .i64 x.r3]
instance : VT Core := { size := 5, cells := Core.cells, len := fun _ => rfl, pos := by decide, one := fun _ => rfl, rd := fun _ _ => True, F := fun _ _ => False, keep := fun _ _ _ _ _ => trivial }
structure Proc where
  state : Int
  prio : Int
  suspended : Bool
  c : Core
  since : Int
  until_ : Int
  kind : Int
  object : Int
  due : Int
  next : Int
  pending : Bool
  code : Int
  value : Int
  call : Int
deriving DecidableEq, Inhabited
def Proc.cells (x : Proc) : List Value := [.int .i64 x.state, .int .i64 x.prio, .bool x.suspended, .int .i64 x.c.pC, .int .i64 x.c.r0, .int .i64 x.c.r1, .int .i64 x.c.r2, .int .i64 x.c.r3, .int .i64 x.since, .int .i64 x.until_, .int .i64 x.kind, .int .i64 x.object, .int .i64 x.due, .int .i64 x.next, .bool x.pending, .int .i64 x.code, .int .i64 x.value, .int .i64 x.call]
instance : VT Proc := { size := 18, cells := Proc.cells, len := fun _ => rfl, pos := by decide, one := fun _ => rfl, rd := fun _ _ => True, F := fun _ _ => False, keep := fun _ _ _ _ _ => trivial }
structure Wait where
  proc : Int
  prio : Int
  value : Int
deriving DecidableEq, Inhabited
def Wait.cells (x : Wait) : List Value := [.int .i64 x.proc, .int .i64 x.prio, .int .i64 x.value]
instance : VT Wait := { size := 3, cells := Wait.cells, len := fun _ => rfl, pos := by decide, one := fun _ => rfl, rd := fun _ _ => True, F := fun _ _ => False, keep := fun _ _ _ _ _ => trivial }
structure Board where
  is_ : Bool
  value : Int
  l : List Wait
deriving DecidableEq, Inhabited
structure BoardV where
  is_ : Bool
  value : Int
  l : Ls Wait
deriving Inhabited
def BoardV.d (x : BoardV) : Board := ⟨x.is_, x.value, x.l.xs⟩
def BoardV.cells (x : BoardV) : List Value := [.bool x.is_, .int .i64 x.value, x.l.v]
def BoardV.rd (w : World) (x : BoardV) : Prop := Ls.rd w x.l
def BoardV.F (x : BoardV) : Nat → Prop := fun g => x.l.F g
theorem BoardV.keep (x : BoardV) (w w' : World) (hk : ∀ g, BoardV.F x g → g < w.heap.size → w'.heap[g]? = w.heap[g]?) (h : BoardV.rd w x) : BoardV.rd w' x := Ls.keep h (fun g h hl => hk g h hl)
instance : VT BoardV := { size := 3, cells := BoardV.cells, len := fun _ => rfl, pos := by decide, one := fun _ => rfl, rd := BoardV.rd, F := BoardV.F, keep := BoardV.keep }
theorem BoardV.on (x : BoardV) (w w' : World) (hb : Below w.heap.size w w') (h : BoardV.rd w x) : BoardV.rd w' x := VT.on x w w' hb h
def BoardV.items (x : BoardV) : List QD.Item := [rowL 100 x.l]
theorem BoardV.rd_own {ok : Nat → Prop} {w : World} {x : BoardV} (h : Own ok w x.items) : BoardV.rd w x := rd_of_items _ (h.at (j := 0) rfl).1 (fun _ _ => trivial)
structure Buffer where
  depth : Int
  ranked : Bool
  values : List Int
  l : List Wait
deriving DecidableEq, Inhabited
structure BufferV where
  depth : Int
  ranked : Bool
  values : Ls Int
  l : Ls Wait
deriving Inhabited
def BufferV.d (x : BufferV) : Buffer := ⟨x.depth, x.ranked, x.values.xs, x.l.xs⟩
def BufferV.cells (x : BufferV) : List Value := [.int .i64 x.depth, .bool x.ranked, x.values.v, x.l.v]
def BufferV.rd (w : World) (x : BufferV) : Prop := Ls.rd w x.values ∧ Ls.rd w x.l
def BufferV.F (x : BufferV) : Nat → Prop := fun g => x.values.F g ∨ x.l.F g
theorem BufferV.keep (x : BufferV) (w w' : World) (hk : ∀ g, BufferV.F x g → g < w.heap.size → w'.heap[g]? = w.heap[g]?) (h : BufferV.rd w x) : BufferV.rd w' x := ⟨Ls.keep h.1 (fun g h hl => hk g (.inl h) hl), Ls.keep h.2 (fun g h hl => hk g (.inr (h)) hl)⟩
instance : VT BufferV := { size := 4, cells := BufferV.cells, len := fun _ => rfl, pos := by decide, one := fun _ => rfl, rd := BufferV.rd, F := BufferV.F, keep := BufferV.keep }
theorem BufferV.on (x : BufferV) (w w' : World) (hb : Below w.heap.size w w') (h : BufferV.rd w x) : BufferV.rd w' x := VT.on x w w' hb h
def BufferV.items (x : BufferV) : List QD.Item := [rowL 3 x.values, rowL 100 x.l]
theorem BufferV.rd_own {ok : Nat → Prop} {w : World} {x : BufferV} (h : Own ok w x.items) : BufferV.rd w x := ⟨rd_of_items _ (h.at (j := 0) rfl).1 (fun _ _ => trivial), rd_of_items _ (h.at (j := 1) rfl).1 (fun _ _ => trivial)⟩
structure Sema where
  count : Int
  most : Int
  ranked : Bool
  l : List Wait
deriving DecidableEq, Inhabited
structure SemaV where
  count : Int
  most : Int
  ranked : Bool
  l : Ls Wait
deriving Inhabited
def SemaV.d (x : SemaV) : Sema := ⟨x.count, x.most, x.ranked, x.l.xs⟩
def SemaV.cells (x : SemaV) : List Value := [.int .i64 x.count, .int .i64 x.most, .bool x.ranked, x.l.v]
def SemaV.rd (w : World) (x : SemaV) : Prop := Ls.rd w x.l
def SemaV.F (x : SemaV) : Nat → Prop := fun g => x.l.F g
theorem SemaV.keep (x : SemaV) (w w' : World) (hk : ∀ g, SemaV.F x g → g < w.heap.size → w'.heap[g]? = w.heap[g]?) (h : SemaV.rd w x) : SemaV.rd w' x := Ls.keep h (fun g h hl => hk g h hl)
instance : VT SemaV := { size := 4, cells := SemaV.cells, len := fun _ => rfl, pos := by decide, one := fun _ => rfl, rd := SemaV.rd, F := SemaV.F, keep := SemaV.keep }
theorem SemaV.on (x : SemaV) (w w' : World) (hb : Below w.heap.size w w') (h : SemaV.rd w x) : SemaV.rd w' x := VT.on x w w' hb h
def SemaV.items (x : SemaV) : List QD.Item := [rowL 100 x.l]
theorem SemaV.rd_own {ok : Nat → Prop} {w : World} {x : SemaV} (h : Own ok w x.items) : SemaV.rd w x := rd_of_items _ (h.at (j := 0) rfl).1 (fun _ _ => trivial)
structure Event where
  up : Bool
  l : List Wait
deriving DecidableEq, Inhabited
structure EventV where
  up : Bool
  l : Ls Wait
deriving Inhabited
def EventV.d (x : EventV) : Event := ⟨x.up, x.l.xs⟩
def EventV.cells (x : EventV) : List Value := [.bool x.up, x.l.v]
def EventV.rd (w : World) (x : EventV) : Prop := Ls.rd w x.l
def EventV.F (x : EventV) : Nat → Prop := fun g => x.l.F g
theorem EventV.keep (x : EventV) (w w' : World) (hk : ∀ g, EventV.F x g → g < w.heap.size → w'.heap[g]? = w.heap[g]?) (h : EventV.rd w x) : EventV.rd w' x := Ls.keep h (fun g h hl => hk g h hl)
instance : VT EventV := { size := 2, cells := EventV.cells, len := fun _ => rfl, pos := by decide, one := fun _ => rfl, rd := EventV.rd, F := EventV.F, keep := EventV.keep }
theorem EventV.on (x : EventV) (w w' : World) (hb : Below w.heap.size w w') (h : EventV.rd w x) : EventV.rd w' x := VT.on x w w' hb h
def EventV.items (x : EventV) : List QD.Item := [rowL 100 x.l]
theorem EventV.rd_own {ok : Nat → Prop} {w : World} {x : EventV} (h : Own ok w x.items) : EventV.rd w x := rd_of_items _ (h.at (j := 0) rfl).1 (fun _ _ => trivial)
structure Sample where
  is_ : Bool
  value : Int
  at_ : Int
deriving DecidableEq, Inhabited
def Sample.cells (x : Sample) : List Value := [.bool x.is_, .int .i64 x.value, .int .i64 x.at_]
instance : VT Sample := { size := 3, cells := Sample.cells, len := fun _ => rfl, pos := by decide, one := fun _ => rfl, rd := fun _ _ => True, F := fun _ _ => False, keep := fun _ _ _ _ _ => trivial }
structure Queue where
  depth : Int
  values : List Int
  lost : Int
deriving DecidableEq, Inhabited
structure QueueV where
  depth : Int
  values : Ls Int
  lost : Int
deriving Inhabited
def QueueV.d (x : QueueV) : Queue := ⟨x.depth, x.values.xs, x.lost⟩
def QueueV.cells (x : QueueV) : List Value := [.int .i64 x.depth, x.values.v, .int .i64 x.lost]
def QueueV.rd (w : World) (x : QueueV) : Prop := Ls.rd w x.values
def QueueV.F (x : QueueV) : Nat → Prop := fun g => x.values.F g
theorem QueueV.keep (x : QueueV) (w w' : World) (hk : ∀ g, QueueV.F x g → g < w.heap.size → w'.heap[g]? = w.heap[g]?) (h : QueueV.rd w x) : QueueV.rd w' x := Ls.keep h (fun g h hl => hk g h hl)
instance : VT QueueV := { size := 3, cells := QueueV.cells, len := fun _ => rfl, pos := by decide, one := fun _ => rfl, rd := QueueV.rd, F := QueueV.F, keep := QueueV.keep }
theorem QueueV.on (x : QueueV) (w w' : World) (hb : Below w.heap.size w w') (h : QueueV.rd w x) : QueueV.rd w' x := VT.on x w w' hb h
def QueueV.items (x : QueueV) : List QD.Item := [rowL 3 x.values]
theorem QueueV.rd_own {ok : Nat → Prop} {w : World} {x : QueueV} (h : Own ok w x.items) : QueueV.rd w x := rd_of_items _ (h.at (j := 0) rfl).1 (fun _ _ => trivial)
structure Latch where
  depth : Int
  lines : List Int
  dropped : Int
deriving DecidableEq, Inhabited
structure LatchV where
  depth : Int
  lines : Ls Int
  dropped : Int
deriving Inhabited
def LatchV.d (x : LatchV) : Latch := ⟨x.depth, x.lines.xs, x.dropped⟩
def LatchV.cells (x : LatchV) : List Value := [.int .i64 x.depth, x.lines.v, .int .i64 x.dropped]
def LatchV.rd (w : World) (x : LatchV) : Prop := Ls.rd w x.lines
def LatchV.F (x : LatchV) : Nat → Prop := fun g => x.lines.F g
theorem LatchV.keep (x : LatchV) (w w' : World) (hk : ∀ g, LatchV.F x g → g < w.heap.size → w'.heap[g]? = w.heap[g]?) (h : LatchV.rd w x) : LatchV.rd w' x := Ls.keep h (fun g h hl => hk g h hl)
instance : VT LatchV := { size := 3, cells := LatchV.cells, len := fun _ => rfl, pos := by decide, one := fun _ => rfl, rd := LatchV.rd, F := LatchV.F, keep := LatchV.keep }
theorem LatchV.on (x : LatchV) (w w' : World) (hb : Below w.heap.size w w') (h : LatchV.rd w x) : LatchV.rd w' x := VT.on x w w' hb h
def LatchV.items (x : LatchV) : List QD.Item := [rowL 3 x.lines]
theorem LatchV.rd_own {ok : Nat → Prop} {w : World} {x : LatchV} (h : Own ok w x.items) : LatchV.rd w x := rd_of_items _ (h.at (j := 0) rfl).1 (fun _ _ => trivial)
structure Part where
  mode : Int
  begun : Int
  next : Int
  memory : List Int
  procs : List Proc
  boards : List Board
  buffers : List Buffer
  semas : List Sema
  events : List Event
  samples : List Sample
  queues : List Queue
  latch : Latch
  given : List Int
deriving DecidableEq, Inhabited
structure PartV where
  mode : Int
  begun : Int
  next : Int
  memory : Ls Int
  procs : Ls Proc
  boards : Ls BoardV
  buffers : Ls BufferV
  semas : Ls SemaV
  events : Ls EventV
  samples : Ls Sample
  queues : Ls QueueV
  latch : LatchV
  given : Ls Int
deriving Inhabited
def PartV.d (x : PartV) : Part := ⟨x.mode, x.begun, x.next, x.memory.xs, x.procs.xs, (x.boards.xs.map BoardV.d), (x.buffers.xs.map BufferV.d), (x.semas.xs.map SemaV.d), (x.events.xs.map EventV.d), x.samples.xs, (x.queues.xs.map QueueV.d), x.latch.d, x.given.xs⟩
def PartV.cells (x : PartV) : List Value := [.int .i64 x.mode, .int .i64 x.begun, .int .i64 x.next, x.memory.v, x.procs.v, x.boards.v, x.buffers.v, x.semas.v, x.events.v, x.samples.v, x.queues.v, .int .i64 x.latch.depth, x.latch.lines.v, .int .i64 x.latch.dropped, x.given.v]
def PartV.rd (w : World) (x : PartV) : Prop := Ls.rd w x.memory ∧ Ls.rd w x.procs ∧ Ls.rd w x.boards ∧ Ls.rd w x.buffers ∧ Ls.rd w x.semas ∧ Ls.rd w x.events ∧ Ls.rd w x.samples ∧ Ls.rd w x.queues ∧ Ls.rd w x.latch.lines ∧ Ls.rd w x.given
def PartV.F (x : PartV) : Nat → Prop := fun g => x.memory.F g ∨ x.procs.F g ∨ x.boards.F g ∨ x.buffers.F g ∨ x.semas.F g ∨ x.events.F g ∨ x.samples.F g ∨ x.queues.F g ∨ x.latch.lines.F g ∨ x.given.F g
theorem PartV.keep (x : PartV) (w w' : World) (hk : ∀ g, PartV.F x g → g < w.heap.size → w'.heap[g]? = w.heap[g]?) (h : PartV.rd w x) : PartV.rd w' x := ⟨Ls.keep h.1 (fun g h hl => hk g (.inl h) hl), Ls.keep h.2.1 (fun g h hl => hk g (.inr (.inl h)) hl), Ls.keep h.2.2.1 (fun g h hl => hk g (.inr (.inr (.inl h))) hl), Ls.keep h.2.2.2.1 (fun g h hl => hk g (.inr (.inr (.inr (.inl h)))) hl), Ls.keep h.2.2.2.2.1 (fun g h hl => hk g (.inr (.inr (.inr (.inr (.inl h))))) hl), Ls.keep h.2.2.2.2.2.1 (fun g h hl => hk g (.inr (.inr (.inr (.inr (.inr (.inl h)))))) hl), Ls.keep h.2.2.2.2.2.2.1 (fun g h hl => hk g (.inr (.inr (.inr (.inr (.inr (.inr (.inl h))))))) hl), Ls.keep h.2.2.2.2.2.2.2.1 (fun g h hl => hk g (.inr (.inr (.inr (.inr (.inr (.inr (.inr (.inl h)))))))) hl), Ls.keep h.2.2.2.2.2.2.2.2.1 (fun g h hl => hk g (.inr (.inr (.inr (.inr (.inr (.inr (.inr (.inr (.inl h))))))))) hl), Ls.keep h.2.2.2.2.2.2.2.2.2 (fun g h hl => hk g (.inr (.inr (.inr (.inr (.inr (.inr (.inr (.inr (.inr (h)))))))))) hl)⟩
instance : VT PartV := { size := 15, cells := PartV.cells, len := fun _ => rfl, pos := by decide, one := fun _ => rfl, rd := PartV.rd, F := PartV.F, keep := PartV.keep }
theorem PartV.on (x : PartV) (w w' : World) (hb : Below w.heap.size w w') (h : PartV.rd w x) : PartV.rd w' x := VT.on x w w' hb h
def PartV.items (x : PartV) : List QD.Item := [rowL 3 x.memory, rowL 52 x.procs, rowL 59 x.boards, innerL x.boards.xs, rowL 73 x.buffers, innerL x.buffers.xs, rowL 75 x.semas, innerL x.semas.xs, rowL 77 x.events, innerL x.events.xs, rowL 83 x.samples, rowL 79 x.queues, innerL x.queues.xs, rowL 3 x.latch.lines, rowL 3 x.given]
theorem PartV.rd_own {ok : Nat → Prop} {w : World} {x : PartV} (h : Own ok w x.items) : PartV.rd w x := ⟨rd_of_items _ (h.at (j := 0) rfl).1 (fun _ _ => trivial), rd_of_items _ (h.at (j := 1) rfl).1 (fun _ _ => trivial), rd_of_items _ (h.at (j := 2) rfl).1 (h.at (j := 3) rfl).1, rd_of_items _ (h.at (j := 4) rfl).1 (h.at (j := 5) rfl).1, rd_of_items _ (h.at (j := 6) rfl).1 (h.at (j := 7) rfl).1, rd_of_items _ (h.at (j := 8) rfl).1 (h.at (j := 9) rfl).1, rd_of_items _ (h.at (j := 10) rfl).1 (fun _ _ => trivial), rd_of_items _ (h.at (j := 11) rfl).1 (h.at (j := 12) rfl).1, rd_of_items _ (h.at (j := 13) rfl).1 (fun _ _ => trivial), rd_of_items _ (h.at (j := 14) rfl).1 (fun _ _ => trivial)⟩
structure Region where
  from_ : Int
  len : Int
  write : Bool
deriving DecidableEq, Inhabited
def Region.cells (x : Region) : List Value := [.int .i64 x.from_, .int .i64 x.len, .bool x.write]
instance : VT Region := { size := 3, cells := Region.cells, len := fun _ => rfl, pos := by decide, one := fun _ => rfl, rd := fun _ _ => True, F := fun _ _ => False, keep := fun _ _ _ _ _ => trivial }
structure ProcConf where
  prio : Int
  period : Int
  limit : Int
  entry : Int
  auto : Bool
deriving DecidableEq, Inhabited
def ProcConf.cells (x : ProcConf) : List Value := [.int .i64 x.prio, .int .i64 x.period, .int .i64 x.limit, .int .i64 x.entry, .bool x.auto]
instance : VT ProcConf := { size := 5, cells := ProcConf.cells, len := fun _ => rfl, pos := by decide, one := fun _ => rfl, rd := fun _ _ => True, F := fun _ _ => False, keep := fun _ _ _ _ _ => trivial }
structure BufferConf where
  depth : Int
  ranked : Bool
deriving DecidableEq, Inhabited
def BufferConf.cells (x : BufferConf) : List Value := [.int .i64 x.depth, .bool x.ranked]
instance : VT BufferConf := { size := 2, cells := BufferConf.cells, len := fun _ => rfl, pos := by decide, one := fun _ => rfl, rd := fun _ _ => True, F := fun _ _ => False, keep := fun _ _ _ _ _ => trivial }
structure SemaConf where
  count : Int
  most : Int
  ranked : Bool
deriving DecidableEq, Inhabited
def SemaConf.cells (x : SemaConf) : List Value := [.int .i64 x.count, .int .i64 x.most, .bool x.ranked]
instance : VT SemaConf := { size := 3, cells := SemaConf.cells, len := fun _ => rfl, pos := by decide, one := fun _ => rfl, rd := fun _ _ => True, F := fun _ _ => False, keep := fun _ _ _ _ _ => trivial }
structure PartConf where
  words : Int
  regions : List Region
  procs : List ProcConf
  boards : Int
  buffers : List BufferConf
  semas : List SemaConf
  events : Int
  samples : List Int
  queues : List Int
  latch : Int
  table : List Int
deriving DecidableEq, Inhabited
structure PartConfV where
  words : Int
  regions : Ls Region
  procs : Ls ProcConf
  boards : Int
  buffers : Ls BufferConf
  semas : Ls SemaConf
  events : Int
  samples : Ls Int
  queues : Ls Int
  latch : Int
  table : Ls Int
deriving Inhabited
def PartConfV.d (x : PartConfV) : PartConf := ⟨x.words, x.regions.xs, x.procs.xs, x.boards, x.buffers.xs, x.semas.xs, x.events, x.samples.xs, x.queues.xs, x.latch, x.table.xs⟩
def PartConfV.cells (x : PartConfV) : List Value := [.int .i64 x.words, x.regions.v, x.procs.v, .int .i64 x.boards, x.buffers.v, x.semas.v, .int .i64 x.events, x.samples.v, x.queues.v, .int .i64 x.latch, x.table.v]
def PartConfV.rd (w : World) (x : PartConfV) : Prop := Ls.rd w x.regions ∧ Ls.rd w x.procs ∧ Ls.rd w x.buffers ∧ Ls.rd w x.semas ∧ Ls.rd w x.samples ∧ Ls.rd w x.queues ∧ Ls.rd w x.table
def PartConfV.F (x : PartConfV) : Nat → Prop := fun g => x.regions.F g ∨ x.procs.F g ∨ x.buffers.F g ∨ x.semas.F g ∨ x.samples.F g ∨ x.queues.F g ∨ x.table.F g
theorem PartConfV.keep (x : PartConfV) (w w' : World) (hk : ∀ g, PartConfV.F x g → g < w.heap.size → w'.heap[g]? = w.heap[g]?) (h : PartConfV.rd w x) : PartConfV.rd w' x := ⟨Ls.keep h.1 (fun g h hl => hk g (.inl h) hl), Ls.keep h.2.1 (fun g h hl => hk g (.inr (.inl h)) hl), Ls.keep h.2.2.1 (fun g h hl => hk g (.inr (.inr (.inl h))) hl), Ls.keep h.2.2.2.1 (fun g h hl => hk g (.inr (.inr (.inr (.inl h)))) hl), Ls.keep h.2.2.2.2.1 (fun g h hl => hk g (.inr (.inr (.inr (.inr (.inl h))))) hl), Ls.keep h.2.2.2.2.2.1 (fun g h hl => hk g (.inr (.inr (.inr (.inr (.inr (.inl h)))))) hl), Ls.keep h.2.2.2.2.2.2 (fun g h hl => hk g (.inr (.inr (.inr (.inr (.inr (.inr (h))))))) hl)⟩
instance : VT PartConfV := { size := 11, cells := PartConfV.cells, len := fun _ => rfl, pos := by decide, one := fun _ => rfl, rd := PartConfV.rd, F := PartConfV.F, keep := PartConfV.keep }
theorem PartConfV.on (x : PartConfV) (w w' : World) (hb : Below w.heap.size w w') (h : PartConfV.rd w x) : PartConfV.rd w' x := VT.on x w w' hb h
def PartConfV.items (x : PartConfV) : List QD.Item := [rowL 233 x.regions, rowL 68 x.procs, rowL 107 x.buffers, rowL 70 x.semas, rowL 3 x.samples, rowL 3 x.queues, rowL 3 x.table]
theorem PartConfV.rd_own {ok : Nat → Prop} {w : World} {x : PartConfV} (h : Own ok w x.items) : PartConfV.rd w x := ⟨rd_of_items _ (h.at (j := 0) rfl).1 (fun _ _ => trivial), rd_of_items _ (h.at (j := 1) rfl).1 (fun _ _ => trivial), rd_of_items _ (h.at (j := 2) rfl).1 (fun _ _ => trivial), rd_of_items _ (h.at (j := 3) rfl).1 (fun _ _ => trivial), rd_of_items _ (h.at (j := 4) rfl).1 (fun _ _ => trivial), rd_of_items _ (h.at (j := 5) rfl).1 (fun _ _ => trivial), rd_of_items _ (h.at (j := 6) rfl).1 (fun _ _ => trivial)⟩
structure Wake where
  proc : Int
  code : Int
  value : Int
deriving DecidableEq, Inhabited
def Wake.cells (x : Wake) : List Value := [.int .i64 x.proc, .int .i64 x.code, .int .i64 x.value]
instance : VT Wake := { size := 3, cells := Wake.cells, len := fun _ => rfl, pos := by decide, one := fun _ => rfl, rd := fun _ _ => True, F := fun _ _ => False, keep := fun _ _ _ _ _ => trivial }
structure Asking where
  c : PartConf
  p : Part
  i : Int
  now : Int
  a0 : Int
  a1 : Int
  a2 : Int
  timeout : Int
  kind : Int
  value : Int
  fault : Int
  wakes : List Wake
deriving DecidableEq, Inhabited
structure AskingV where
  c : PartConfV
  p : PartV
  i : Int
  now : Int
  a0 : Int
  a1 : Int
  a2 : Int
  timeout : Int
  kind : Int
  value : Int
  fault : Int
  wakes : Ls Wake
deriving Inhabited
def AskingV.d (x : AskingV) : Asking := ⟨x.c.d, x.p.d, x.i, x.now, x.a0, x.a1, x.a2, x.timeout, x.kind, x.value, x.fault, x.wakes.xs⟩
def AskingV.cells (x : AskingV) : List Value := [.int .i64 x.c.words, x.c.regions.v, x.c.procs.v, .int .i64 x.c.boards, x.c.buffers.v, x.c.semas.v, .int .i64 x.c.events, x.c.samples.v, x.c.queues.v, .int .i64 x.c.latch, x.c.table.v, .int .i64 x.p.mode, .int .i64 x.p.begun, .int .i64 x.p.next, x.p.memory.v, x.p.procs.v, x.p.boards.v, x.p.buffers.v, x.p.semas.v, x.p.events.v, x.p.samples.v, x.p.queues.v, .int .i64 x.p.latch.depth, x.p.latch.lines.v, .int .i64 x.p.latch.dropped, x.p.given.v, .int .i64 x.i, .int .i64 x.now, .int .i64 x.a0, .int .i64 x.a1, .int .i64 x.a2, .int .i64 x.timeout, .int .i64 x.kind, .int .i64 x.value, .int .i64 x.fault, x.wakes.v]
def AskingV.rd (w : World) (x : AskingV) : Prop := Ls.rd w x.c.regions ∧ Ls.rd w x.c.procs ∧ Ls.rd w x.c.buffers ∧ Ls.rd w x.c.semas ∧ Ls.rd w x.c.samples ∧ Ls.rd w x.c.queues ∧ Ls.rd w x.c.table ∧ Ls.rd w x.p.memory ∧ Ls.rd w x.p.procs ∧ Ls.rd w x.p.boards ∧ Ls.rd w x.p.buffers ∧ Ls.rd w x.p.semas ∧ Ls.rd w x.p.events ∧ Ls.rd w x.p.samples ∧ Ls.rd w x.p.queues ∧ Ls.rd w x.p.latch.lines ∧ Ls.rd w x.p.given ∧ Ls.rd w x.wakes
def AskingV.F (x : AskingV) : Nat → Prop := fun g => x.c.regions.F g ∨ x.c.procs.F g ∨ x.c.buffers.F g ∨ x.c.semas.F g ∨ x.c.samples.F g ∨ x.c.queues.F g ∨ x.c.table.F g ∨ x.p.memory.F g ∨ x.p.procs.F g ∨ x.p.boards.F g ∨ x.p.buffers.F g ∨ x.p.semas.F g ∨ x.p.events.F g ∨ x.p.samples.F g ∨ x.p.queues.F g ∨ x.p.latch.lines.F g ∨ x.p.given.F g ∨ x.wakes.F g
theorem AskingV.keep (x : AskingV) (w w' : World) (hk : ∀ g, AskingV.F x g → g < w.heap.size → w'.heap[g]? = w.heap[g]?) (h : AskingV.rd w x) : AskingV.rd w' x := ⟨Ls.keep h.1 (fun g h hl => hk g (.inl h) hl), Ls.keep h.2.1 (fun g h hl => hk g (.inr (.inl h)) hl), Ls.keep h.2.2.1 (fun g h hl => hk g (.inr (.inr (.inl h))) hl), Ls.keep h.2.2.2.1 (fun g h hl => hk g (.inr (.inr (.inr (.inl h)))) hl), Ls.keep h.2.2.2.2.1 (fun g h hl => hk g (.inr (.inr (.inr (.inr (.inl h))))) hl), Ls.keep h.2.2.2.2.2.1 (fun g h hl => hk g (.inr (.inr (.inr (.inr (.inr (.inl h)))))) hl), Ls.keep h.2.2.2.2.2.2.1 (fun g h hl => hk g (.inr (.inr (.inr (.inr (.inr (.inr (.inl h))))))) hl), Ls.keep h.2.2.2.2.2.2.2.1 (fun g h hl => hk g (.inr (.inr (.inr (.inr (.inr (.inr (.inr (.inl h)))))))) hl), Ls.keep h.2.2.2.2.2.2.2.2.1 (fun g h hl => hk g (.inr (.inr (.inr (.inr (.inr (.inr (.inr (.inr (.inl h))))))))) hl), Ls.keep h.2.2.2.2.2.2.2.2.2.1 (fun g h hl => hk g (.inr (.inr (.inr (.inr (.inr (.inr (.inr (.inr (.inr (.inl h)))))))))) hl), Ls.keep h.2.2.2.2.2.2.2.2.2.2.1 (fun g h hl => hk g (.inr (.inr (.inr (.inr (.inr (.inr (.inr (.inr (.inr (.inr (.inl h))))))))))) hl), Ls.keep h.2.2.2.2.2.2.2.2.2.2.2.1 (fun g h hl => hk g (.inr (.inr (.inr (.inr (.inr (.inr (.inr (.inr (.inr (.inr (.inr (.inl h)))))))))))) hl), Ls.keep h.2.2.2.2.2.2.2.2.2.2.2.2.1 (fun g h hl => hk g (.inr (.inr (.inr (.inr (.inr (.inr (.inr (.inr (.inr (.inr (.inr (.inr (.inl h))))))))))))) hl), Ls.keep h.2.2.2.2.2.2.2.2.2.2.2.2.2.1 (fun g h hl => hk g (.inr (.inr (.inr (.inr (.inr (.inr (.inr (.inr (.inr (.inr (.inr (.inr (.inr (.inl h)))))))))))))) hl), Ls.keep h.2.2.2.2.2.2.2.2.2.2.2.2.2.2.1 (fun g h hl => hk g (.inr (.inr (.inr (.inr (.inr (.inr (.inr (.inr (.inr (.inr (.inr (.inr (.inr (.inr (.inl h))))))))))))))) hl), Ls.keep h.2.2.2.2.2.2.2.2.2.2.2.2.2.2.2.1 (fun g h hl => hk g (.inr (.inr (.inr (.inr (.inr (.inr (.inr (.inr (.inr (.inr (.inr (.inr (.inr (.inr (.inr (.inl h)))))))))))))))) hl), Ls.keep h.2.2.2.2.2.2.2.2.2.2.2.2.2.2.2.2.1 (fun g h hl => hk g (.inr (.inr (.inr (.inr (.inr (.inr (.inr (.inr (.inr (.inr (.inr (.inr (.inr (.inr (.inr (.inr (.inl h))))))))))))))))) hl), Ls.keep h.2.2.2.2.2.2.2.2.2.2.2.2.2.2.2.2.2 (fun g h hl => hk g (.inr (.inr (.inr (.inr (.inr (.inr (.inr (.inr (.inr (.inr (.inr (.inr (.inr (.inr (.inr (.inr (.inr (h)))))))))))))))))) hl)⟩
instance : VT AskingV := { size := 36, cells := AskingV.cells, len := fun _ => rfl, pos := by decide, one := fun _ => rfl, rd := AskingV.rd, F := AskingV.F, keep := AskingV.keep }
theorem AskingV.on (x : AskingV) (w w' : World) (hb : Below w.heap.size w w') (h : AskingV.rd w x) : AskingV.rd w' x := VT.on x w w' hb h
def AskingV.items (x : AskingV) : List QD.Item := [rowL 233 x.c.regions, rowL 68 x.c.procs, rowL 107 x.c.buffers, rowL 70 x.c.semas, rowL 3 x.c.samples, rowL 3 x.c.queues, rowL 3 x.c.table, rowL 3 x.p.memory, rowL 52 x.p.procs, rowL 59 x.p.boards, innerL x.p.boards.xs, rowL 73 x.p.buffers, innerL x.p.buffers.xs, rowL 75 x.p.semas, innerL x.p.semas.xs, rowL 77 x.p.events, innerL x.p.events.xs, rowL 83 x.p.samples, rowL 79 x.p.queues, innerL x.p.queues.xs, rowL 3 x.p.latch.lines, rowL 3 x.p.given, rowL 93 x.wakes]
theorem AskingV.rd_own {ok : Nat → Prop} {w : World} {x : AskingV} (h : Own ok w x.items) : AskingV.rd w x := ⟨rd_of_items _ (h.at (j := 0) rfl).1 (fun _ _ => trivial), rd_of_items _ (h.at (j := 1) rfl).1 (fun _ _ => trivial), rd_of_items _ (h.at (j := 2) rfl).1 (fun _ _ => trivial), rd_of_items _ (h.at (j := 3) rfl).1 (fun _ _ => trivial), rd_of_items _ (h.at (j := 4) rfl).1 (fun _ _ => trivial), rd_of_items _ (h.at (j := 5) rfl).1 (fun _ _ => trivial), rd_of_items _ (h.at (j := 6) rfl).1 (fun _ _ => trivial), rd_of_items _ (h.at (j := 7) rfl).1 (fun _ _ => trivial), rd_of_items _ (h.at (j := 8) rfl).1 (fun _ _ => trivial), rd_of_items _ (h.at (j := 9) rfl).1 (h.at (j := 10) rfl).1, rd_of_items _ (h.at (j := 11) rfl).1 (h.at (j := 12) rfl).1, rd_of_items _ (h.at (j := 13) rfl).1 (h.at (j := 14) rfl).1, rd_of_items _ (h.at (j := 15) rfl).1 (h.at (j := 16) rfl).1, rd_of_items _ (h.at (j := 17) rfl).1 (fun _ _ => trivial), rd_of_items _ (h.at (j := 18) rfl).1 (h.at (j := 19) rfl).1, rd_of_items _ (h.at (j := 20) rfl).1 (fun _ _ => trivial), rd_of_items _ (h.at (j := 21) rfl).1 (fun _ _ => trivial), rd_of_items _ (h.at (j := 22) rfl).1 (fun _ _ => trivial)⟩
structure Counter where
  sema : Sema
deriving DecidableEq, Inhabited
structure CounterV where
  sema : SemaV
deriving Inhabited
def CounterV.d (x : CounterV) : Counter := ⟨x.sema.d⟩
def CounterV.cells (x : CounterV) : List Value := [.int .i64 x.sema.count, .int .i64 x.sema.most, .bool x.sema.ranked, x.sema.l.v]
def CounterV.rd (w : World) (x : CounterV) : Prop := Ls.rd w x.sema.l
def CounterV.F (x : CounterV) : Nat → Prop := fun g => x.sema.l.F g
theorem CounterV.keep (x : CounterV) (w w' : World) (hk : ∀ g, CounterV.F x g → g < w.heap.size → w'.heap[g]? = w.heap[g]?) (h : CounterV.rd w x) : CounterV.rd w' x := Ls.keep h (fun g h hl => hk g h hl)
instance : VT CounterV := { size := 4, cells := CounterV.cells, len := fun _ => rfl, pos := by decide, one := fun _ => rfl, rd := CounterV.rd, F := CounterV.F, keep := CounterV.keep }
theorem CounterV.on (x : CounterV) (w w' : World) (hb : Below w.heap.size w w') (h : CounterV.rd w x) : CounterV.rd w' x := VT.on x w w' hb h
def CounterV.items (x : CounterV) : List QD.Item := [rowL 100 x.sema.l]
theorem CounterV.rd_own {ok : Nat → Prop} {w : World} {x : CounterV} (h : Own ok w x.items) : CounterV.rd w x := rd_of_items _ (h.at (j := 0) rfl).1 (fun _ _ => trivial)
end Go.Proofs.YtdckgfhdkehlmaaGreat
