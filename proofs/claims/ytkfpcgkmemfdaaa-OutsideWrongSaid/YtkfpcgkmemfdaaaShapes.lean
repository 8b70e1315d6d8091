/- Lean structures for the Go structs of the laws, and their shapes. Printed by wip/bin/gen_shapes.py. -/
import Derived.Test.YtkfpcgkmemfdaaaBase
namespace Rdn
open Go

structure Cell where
  tag : Int
  val : Int
  deriving DecidableEq
def Cell.sh : Sh Cell := Sh.via (Sh.prod (Sh.int .u8) (Sh.prod (Sh.int .u16) Sh.unit)) (fun x => (x.tag, x.val, ()))
theorem Cell.rd_iff {S : Nat → Prop} {w : World} {x : Cell} {cs : List Value} : Cell.sh.rd S w x cs ↔ cs = [.int .u8 x.tag, .int .u16 x.val] ∧ inK .u8 x.tag ∧ inK .u16 x.val := by
  constructor
  · rintro ⟨_, _, rfl, ⟨rfl, htag⟩, ⟨_, _, rfl, ⟨rfl, hval⟩, rfl⟩⟩
    exact ⟨rfl, htag, hval⟩
  · rintro ⟨rfl, htag, hval⟩
    exact ⟨_, _, rfl, ⟨rfl, htag⟩, ⟨_, _, rfl, ⟨rfl, hval⟩, rfl⟩⟩

structure Canon where
  tag : Int
  val : Int
  region : Int
  offset : Int
  deriving DecidableEq
def Canon.sh : Sh Canon := Sh.via (Sh.prod (Sh.int .u8) (Sh.prod (Sh.int .u16) (Sh.prod (Sh.int .i64) (Sh.prod (Sh.int .i64) Sh.unit)))) (fun x => (x.tag, x.val, x.region, x.offset, ()))
theorem Canon.rd_iff {S : Nat → Prop} {w : World} {x : Canon} {cs : List Value} : Canon.sh.rd S w x cs ↔ cs = [.int .u8 x.tag, .int .u16 x.val, .int .i64 x.region, .int .i64 x.offset] ∧ inK .u8 x.tag ∧ inK .u16 x.val ∧ inK .i64 x.region ∧ inK .i64 x.offset := by
  constructor
  · rintro ⟨_, _, rfl, ⟨rfl, htag⟩, ⟨_, _, rfl, ⟨rfl, hval⟩, ⟨_, _, rfl, ⟨rfl, hregion⟩, ⟨_, _, rfl, ⟨rfl, hoffset⟩, rfl⟩⟩⟩⟩
    exact ⟨rfl, htag, hval, hregion, hoffset⟩
  · rintro ⟨rfl, htag, hval, hregion, hoffset⟩
    exact ⟨_, _, rfl, ⟨rfl, htag⟩, ⟨_, _, rfl, ⟨rfl, hval⟩, ⟨_, _, rfl, ⟨rfl, hregion⟩, ⟨_, _, rfl, ⟨rfl, hoffset⟩, rfl⟩⟩⟩⟩

structure Place where
  region : Int
  offset : Int
  deriving DecidableEq
def Place.sh : Sh Place := Sh.via (Sh.prod (Sh.int .i64) (Sh.prod (Sh.int .i64) Sh.unit)) (fun x => (x.region, x.offset, ()))
theorem Place.rd_iff {S : Nat → Prop} {w : World} {x : Place} {cs : List Value} : Place.sh.rd S w x cs ↔ cs = [.int .i64 x.region, .int .i64 x.offset] ∧ inK .i64 x.region ∧ inK .i64 x.offset := by
  constructor
  · rintro ⟨_, _, rfl, ⟨rfl, hregion⟩, ⟨_, _, rfl, ⟨rfl, hoffset⟩, rfl⟩⟩
    exact ⟨rfl, hregion, hoffset⟩
  · rintro ⟨rfl, hregion, hoffset⟩
    exact ⟨_, _, rfl, ⟨rfl, hregion⟩, ⟨_, _, rfl, ⟨rfl, hoffset⟩, rfl⟩⟩

structure View where
  state : Int
  pc : Int
  count : Int
  handler : Int
  saved : Int
  trap : Int
  code : Int
  regs : List Canon
  deriving DecidableEq
def View.sh : Sh View := Sh.via (Sh.prod (Sh.int .i64) (Sh.prod (Sh.int .i64) (Sh.prod (Sh.int .i64) (Sh.prod (Sh.int .i64) (Sh.prod (Sh.int .i64) (Sh.prod (Sh.int .i64) (Sh.prod (Sh.int .u16) (Sh.prod (Sh.slice Canon.sh) Sh.unit)))))))) (fun x => (x.state, x.pc, x.count, x.handler, x.saved, x.trap, x.code, x.regs, ()))
theorem View.rd_iff {S : Nat → Prop} {w : World} {x : View} {cs : List Value} : View.sh.rd S w x cs ↔ ∃ vregs, cs = [.int .i64 x.state, .int .i64 x.pc, .int .i64 x.count, .int .i64 x.handler, .int .i64 x.saved, .int .i64 x.trap, .int .u16 x.code, vregs] ∧ inK .i64 x.state ∧ inK .i64 x.pc ∧ inK .i64 x.count ∧ inK .i64 x.handler ∧ inK .i64 x.saved ∧ inK .i64 x.trap ∧ inK .u16 x.code ∧ SlV Canon.sh S w x.regs vregs := by
  constructor
  · rintro ⟨_, _, rfl, ⟨rfl, hstate⟩, ⟨_, _, rfl, ⟨rfl, hpc⟩, ⟨_, _, rfl, ⟨rfl, hcount⟩, ⟨_, _, rfl, ⟨rfl, hhandler⟩, ⟨_, _, rfl, ⟨rfl, hsaved⟩, ⟨_, _, rfl, ⟨rfl, htrap⟩, ⟨_, _, rfl, ⟨rfl, hcode⟩, ⟨_, _, rfl, ⟨vregs, rfl, hregs⟩, rfl⟩⟩⟩⟩⟩⟩⟩⟩
    exact ⟨vregs, rfl, hstate, hpc, hcount, hhandler, hsaved, htrap, hcode, hregs⟩
  · rintro ⟨vregs, rfl, hstate, hpc, hcount, hhandler, hsaved, htrap, hcode, hregs⟩
    exact ⟨_, _, rfl, ⟨rfl, hstate⟩, ⟨_, _, rfl, ⟨rfl, hpc⟩, ⟨_, _, rfl, ⟨rfl, hcount⟩, ⟨_, _, rfl, ⟨rfl, hhandler⟩, ⟨_, _, rfl, ⟨rfl, hsaved⟩, ⟨_, _, rfl, ⟨rfl, htrap⟩, ⟨_, _, rfl, ⟨rfl, hcode⟩, ⟨_, _, rfl, ⟨vregs, rfl, hregs⟩, rfl⟩⟩⟩⟩⟩⟩⟩⟩

structure Output where
  seq : Int
  socket : Int
  data : List Canon
  deriving DecidableEq
def Output.sh : Sh Output := Sh.via (Sh.prod (Sh.int .i64) (Sh.prod (Sh.int .i64) (Sh.prod (Sh.slice Canon.sh) Sh.unit))) (fun x => (x.seq, x.socket, x.data, ()))
theorem Output.rd_iff {S : Nat → Prop} {w : World} {x : Output} {cs : List Value} : Output.sh.rd S w x cs ↔ ∃ vdata, cs = [.int .i64 x.seq, .int .i64 x.socket, vdata] ∧ inK .i64 x.seq ∧ inK .i64 x.socket ∧ SlV Canon.sh S w x.data vdata := by
  constructor
  · rintro ⟨_, _, rfl, ⟨rfl, hseq⟩, ⟨_, _, rfl, ⟨rfl, hsocket⟩, ⟨_, _, rfl, ⟨vdata, rfl, hdata⟩, rfl⟩⟩⟩
    exact ⟨vdata, rfl, hseq, hsocket, hdata⟩
  · rintro ⟨vdata, rfl, hseq, hsocket, hdata⟩
    exact ⟨_, _, rfl, ⟨rfl, hseq⟩, ⟨_, _, rfl, ⟨rfl, hsocket⟩, ⟨_, _, rfl, ⟨vdata, rfl, hdata⟩, rfl⟩⟩⟩

structure Opn where
  file : Int
  offset : Int
  write : Bool
  deriving DecidableEq
def Opn.sh : Sh Opn := Sh.via (Sh.prod (Sh.int .i64) (Sh.prod (Sh.int .i64) (Sh.prod Sh.bool Sh.unit))) (fun x => (x.file, x.offset, x.write, ()))
theorem Opn.rd_iff {S : Nat → Prop} {w : World} {x : Opn} {cs : List Value} : Opn.sh.rd S w x cs ↔ cs = [.int .i64 x.file, .int .i64 x.offset, .bool x.write] ∧ inK .i64 x.file ∧ inK .i64 x.offset := by
  constructor
  · rintro ⟨_, _, rfl, ⟨rfl, hfile⟩, ⟨_, _, rfl, ⟨rfl, hoffset⟩, ⟨_, _, rfl, rfl, rfl⟩⟩⟩
    exact ⟨rfl, hfile, hoffset⟩
  · rintro ⟨rfl, hfile, hoffset⟩
    exact ⟨_, _, rfl, ⟨rfl, hfile⟩, ⟨_, _, rfl, ⟨rfl, hoffset⟩, ⟨_, _, rfl, rfl, rfl⟩⟩⟩

structure Files where
  data : List (List Canon)
  opens : List Opn
  deriving DecidableEq
def Files.sh : Sh Files := Sh.via (Sh.prod (Sh.slice (Sh.slice Canon.sh)) (Sh.prod (Sh.slice Opn.sh) Sh.unit)) (fun x => (x.data, x.opens, ()))
theorem Files.rd_iff {S : Nat → Prop} {w : World} {x : Files} {cs : List Value} : Files.sh.rd S w x cs ↔ ∃ vdata vopens, cs = [vdata, vopens] ∧ SlV (Sh.slice Canon.sh) S w x.data vdata ∧ SlV Opn.sh S w x.opens vopens := by
  constructor
  · rintro ⟨_, _, rfl, ⟨vdata, rfl, hdata⟩, ⟨_, _, rfl, ⟨vopens, rfl, hopens⟩, rfl⟩⟩
    exact ⟨vdata, vopens, rfl, hdata, hopens⟩
  · rintro ⟨vdata, vopens, rfl, hdata, hopens⟩
    exact ⟨_, _, rfl, ⟨vdata, rfl, hdata⟩, ⟨_, _, rfl, ⟨vopens, rfl, hopens⟩, rfl⟩⟩

structure State where
  regions : List (List Canon)
  threads : List View
  deriving DecidableEq
def State.sh : Sh State := Sh.via (Sh.prod (Sh.slice (Sh.slice Canon.sh)) (Sh.prod (Sh.slice View.sh) Sh.unit)) (fun x => (x.regions, x.threads, ()))
theorem State.rd_iff {S : Nat → Prop} {w : World} {x : State} {cs : List Value} : State.sh.rd S w x cs ↔ ∃ vregions vthreads, cs = [vregions, vthreads] ∧ SlV (Sh.slice Canon.sh) S w x.regions vregions ∧ SlV View.sh S w x.threads vthreads := by
  constructor
  · rintro ⟨_, _, rfl, ⟨vregions, rfl, hregions⟩, ⟨_, _, rfl, ⟨vthreads, rfl, hthreads⟩, rfl⟩⟩
    exact ⟨vregions, vthreads, rfl, hregions, hthreads⟩
  · rintro ⟨vregions, vthreads, rfl, hregions, hthreads⟩
    exact ⟨_, _, rfl, ⟨vregions, rfl, hregions⟩, ⟨_, _, rfl, ⟨vthreads, rfl, hthreads⟩, rfl⟩⟩

structure PageID where
  region : Int
  index : Int
  deriving DecidableEq
def PageID.sh : Sh PageID := Sh.via (Sh.prod (Sh.int .i64) (Sh.prod (Sh.int .i64) Sh.unit)) (fun x => (x.region, x.index, ()))
theorem PageID.rd_iff {S : Nat → Prop} {w : World} {x : PageID} {cs : List Value} : PageID.sh.rd S w x cs ↔ cs = [.int .i64 x.region, .int .i64 x.index] ∧ inK .i64 x.region ∧ inK .i64 x.index := by
  constructor
  · rintro ⟨_, _, rfl, ⟨rfl, hregion⟩, ⟨_, _, rfl, ⟨rfl, hindex⟩, rfl⟩⟩
    exact ⟨rfl, hregion, hindex⟩
  · rintro ⟨rfl, hregion, hindex⟩
    exact ⟨_, _, rfl, ⟨rfl, hregion⟩, ⟨_, _, rfl, ⟨rfl, hindex⟩, rfl⟩⟩

structure Page where
  id : PageID
  cells : List Canon
  view : View
  deriving DecidableEq
def Page.sh : Sh Page := Sh.via (Sh.prod PageID.sh (Sh.prod (Sh.slice Canon.sh) (Sh.prod View.sh Sh.unit))) (fun x => (x.id, x.cells, x.view, ()))
theorem Page.rd_iff {S : Nat → Prop} {w : World} {x : Page} {cs : List Value} : Page.sh.rd S w x cs ↔ ∃ cid vcells cview, cs = cid ++ ([vcells] ++ cview) ∧ PageID.sh.rd S w x.id cid ∧ SlV Canon.sh S w x.cells vcells ∧ View.sh.rd S w x.view cview := by
  constructor
  · rintro ⟨cid, _, rfl, hid, ⟨_, _, rfl, ⟨vcells, rfl, hcells⟩, ⟨cview, _, rfl, hview, rfl⟩⟩⟩
    exact ⟨cid, vcells, cview, by simp, hid, hcells, hview⟩
  · rintro ⟨cid, vcells, cview, rfl, hid, hcells, hview⟩
    exact ⟨cid, ([vcells] ++ (cview ++ [])), by simp, hid, ⟨[vcells], (cview ++ []), by simp, ⟨vcells, rfl, hcells⟩, ⟨cview, [], by simp, hview, rfl⟩⟩⟩

structure Tree where
  levels : List (List Int)
  deriving DecidableEq
def Tree.sh : Sh Tree := Sh.via (Sh.prod (Sh.slice (Sh.slice (Sh.int .u32))) Sh.unit) (fun x => (x.levels, ()))
theorem Tree.rd_iff {S : Nat → Prop} {w : World} {x : Tree} {cs : List Value} : Tree.sh.rd S w x cs ↔ ∃ vlevels, cs = [vlevels] ∧ SlV (Sh.slice (Sh.int .u32)) S w x.levels vlevels := by
  constructor
  · rintro ⟨_, _, rfl, ⟨vlevels, rfl, hlevels⟩, rfl⟩
    exact ⟨vlevels, rfl, hlevels⟩
  · rintro ⟨vlevels, rfl, hlevels⟩
    exact ⟨_, _, rfl, ⟨vlevels, rfl, hlevels⟩, rfl⟩

structure Gateway where
  next : Int
  free : Int
  acked : Int
  held : List Output
  deriving DecidableEq
def Gateway.sh : Sh Gateway := Sh.via (Sh.prod (Sh.int .i64) (Sh.prod (Sh.int .i64) (Sh.prod (Sh.int .i64) (Sh.prod (Sh.slice Output.sh) Sh.unit)))) (fun x => (x.next, x.free, x.acked, x.held, ()))
theorem Gateway.rd_iff {S : Nat → Prop} {w : World} {x : Gateway} {cs : List Value} : Gateway.sh.rd S w x cs ↔ ∃ vheld, cs = [.int .i64 x.next, .int .i64 x.free, .int .i64 x.acked, vheld] ∧ inK .i64 x.next ∧ inK .i64 x.free ∧ inK .i64 x.acked ∧ SlV Output.sh S w x.held vheld := by
  constructor
  · rintro ⟨_, _, rfl, ⟨rfl, hnext⟩, ⟨_, _, rfl, ⟨rfl, hfree⟩, ⟨_, _, rfl, ⟨rfl, hacked⟩, ⟨_, _, rfl, ⟨vheld, rfl, hheld⟩, rfl⟩⟩⟩⟩
    exact ⟨vheld, rfl, hnext, hfree, hacked, hheld⟩
  · rintro ⟨vheld, rfl, hnext, hfree, hacked, hheld⟩
    exact ⟨_, _, rfl, ⟨rfl, hnext⟩, ⟨_, _, rfl, ⟨rfl, hfree⟩, ⟨_, _, rfl, ⟨rfl, hacked⟩, ⟨_, _, rfl, ⟨vheld, rfl, hheld⟩, rfl⟩⟩⟩⟩

structure Mailbox where
  next : Int
  epoch : Int
  taken : List Output
  deriving DecidableEq
def Mailbox.sh : Sh Mailbox := Sh.via (Sh.prod (Sh.int .i64) (Sh.prod (Sh.int .i64) (Sh.prod (Sh.slice Output.sh) Sh.unit))) (fun x => (x.next, x.epoch, x.taken, ()))
theorem Mailbox.rd_iff {S : Nat → Prop} {w : World} {x : Mailbox} {cs : List Value} : Mailbox.sh.rd S w x cs ↔ ∃ vtaken, cs = [.int .i64 x.next, .int .i64 x.epoch, vtaken] ∧ inK .i64 x.next ∧ inK .i64 x.epoch ∧ SlV Output.sh S w x.taken vtaken := by
  constructor
  · rintro ⟨_, _, rfl, ⟨rfl, hnext⟩, ⟨_, _, rfl, ⟨rfl, hepoch⟩, ⟨_, _, rfl, ⟨vtaken, rfl, htaken⟩, rfl⟩⟩⟩
    exact ⟨vtaken, rfl, hnext, hepoch, htaken⟩
  · rintro ⟨vtaken, rfl, hnext, hepoch, htaken⟩
    exact ⟨_, _, rfl, ⟨rfl, hnext⟩, ⟨_, _, rfl, ⟨rfl, hepoch⟩, ⟨_, _, rfl, ⟨vtaken, rfl, htaken⟩, rfl⟩⟩⟩

structure Note where
  kind : Int
  number : Int
  state : Int
  bytes : List Int
  deriving DecidableEq
def Note.sh : Sh Note := Sh.via (Sh.prod (Sh.int .i64) (Sh.prod (Sh.int .i64) (Sh.prod (Sh.int .i64) (Sh.prod (Sh.slice (Sh.int .u8)) Sh.unit)))) (fun x => (x.kind, x.number, x.state, x.bytes, ()))
theorem Note.rd_iff {S : Nat → Prop} {w : World} {x : Note} {cs : List Value} : Note.sh.rd S w x cs ↔ ∃ vbytes, cs = [.int .i64 x.kind, .int .i64 x.number, .int .i64 x.state, vbytes] ∧ inK .i64 x.kind ∧ inK .i64 x.number ∧ inK .i64 x.state ∧ SlV (Sh.int .u8) S w x.bytes vbytes := by
  constructor
  · rintro ⟨_, _, rfl, ⟨rfl, hkind⟩, ⟨_, _, rfl, ⟨rfl, hnumber⟩, ⟨_, _, rfl, ⟨rfl, hstate⟩, ⟨_, _, rfl, ⟨vbytes, rfl, hbytes⟩, rfl⟩⟩⟩⟩
    exact ⟨vbytes, rfl, hkind, hnumber, hstate, hbytes⟩
  · rintro ⟨vbytes, rfl, hkind, hnumber, hstate, hbytes⟩
    exact ⟨_, _, rfl, ⟨rfl, hkind⟩, ⟨_, _, rfl, ⟨rfl, hnumber⟩, ⟨_, _, rfl, ⟨rfl, hstate⟩, ⟨_, _, rfl, ⟨vbytes, rfl, hbytes⟩, rfl⟩⟩⟩⟩

structure Outside where
  clock : List Int
  random : List Int
  inputs : List (List Int)
  files : Files
  outputs : List Output
  deriving DecidableEq
def Outside.sh : Sh Outside := Sh.via (Sh.prod (Sh.slice (Sh.int .u16)) (Sh.prod (Sh.slice (Sh.int .u16)) (Sh.prod (Sh.slice (Sh.slice (Sh.int .u16))) (Sh.prod Files.sh (Sh.prod (Sh.slice Output.sh) Sh.unit))))) (fun x => (x.clock, x.random, x.inputs, x.files, x.outputs, ()))
theorem Outside.rd_iff {S : Nat → Prop} {w : World} {x : Outside} {cs : List Value} : Outside.sh.rd S w x cs ↔ ∃ vclock vrandom vinputs cfiles voutputs, cs = [vclock, vrandom, vinputs] ++ (cfiles ++ [voutputs]) ∧ SlV (Sh.int .u16) S w x.clock vclock ∧ SlV (Sh.int .u16) S w x.random vrandom ∧ SlV (Sh.slice (Sh.int .u16)) S w x.inputs vinputs ∧ Files.sh.rd S w x.files cfiles ∧ SlV Output.sh S w x.outputs voutputs := by
  constructor
  · rintro ⟨_, _, rfl, ⟨vclock, rfl, hclock⟩, ⟨_, _, rfl, ⟨vrandom, rfl, hrandom⟩, ⟨_, _, rfl, ⟨vinputs, rfl, hinputs⟩, ⟨cfiles, _, rfl, hfiles, ⟨_, _, rfl, ⟨voutputs, rfl, houtputs⟩, rfl⟩⟩⟩⟩⟩
    exact ⟨vclock, vrandom, vinputs, cfiles, voutputs, by simp, hclock, hrandom, hinputs, hfiles, houtputs⟩
  · rintro ⟨vclock, vrandom, vinputs, cfiles, voutputs, rfl, hclock, hrandom, hinputs, hfiles, houtputs⟩
    exact ⟨[vclock], ([vrandom] ++ ([vinputs] ++ (cfiles ++ ([voutputs] ++ [])))), by simp, ⟨vclock, rfl, hclock⟩, ⟨[vrandom], ([vinputs] ++ (cfiles ++ ([voutputs] ++ []))), by simp, ⟨vrandom, rfl, hrandom⟩, ⟨[vinputs], (cfiles ++ ([voutputs] ++ [])), by simp, ⟨vinputs, rfl, hinputs⟩, ⟨cfiles, ([voutputs] ++ []), by simp, hfiles, ⟨[voutputs], [], by simp, ⟨voutputs, rfl, houtputs⟩, rfl⟩⟩⟩⟩⟩

structure Request where
  thread : Int
  stop : Int
  trap : Int
  count : Int
  pc : Int
  call : Int
  args : List Canon
  data : List Canon
  deriving DecidableEq
def Request.sh : Sh Request := Sh.via (Sh.prod (Sh.int .i64) (Sh.prod (Sh.int .i64) (Sh.prod (Sh.int .i64) (Sh.prod (Sh.int .i64) (Sh.prod (Sh.int .i64) (Sh.prod (Sh.int .i64) (Sh.prod (Sh.slice Canon.sh) (Sh.prod (Sh.slice Canon.sh) Sh.unit)))))))) (fun x => (x.thread, x.stop, x.trap, x.count, x.pc, x.call, x.args, x.data, ()))
theorem Request.rd_iff {S : Nat → Prop} {w : World} {x : Request} {cs : List Value} : Request.sh.rd S w x cs ↔ ∃ vargs vdata, cs = [.int .i64 x.thread, .int .i64 x.stop, .int .i64 x.trap, .int .i64 x.count, .int .i64 x.pc, .int .i64 x.call, vargs, vdata] ∧ inK .i64 x.thread ∧ inK .i64 x.stop ∧ inK .i64 x.trap ∧ inK .i64 x.count ∧ inK .i64 x.pc ∧ inK .i64 x.call ∧ SlV Canon.sh S w x.args vargs ∧ SlV Canon.sh S w x.data vdata := by
  constructor
  · rintro ⟨_, _, rfl, ⟨rfl, hthread⟩, ⟨_, _, rfl, ⟨rfl, hstop⟩, ⟨_, _, rfl, ⟨rfl, htrap⟩, ⟨_, _, rfl, ⟨rfl, hcount⟩, ⟨_, _, rfl, ⟨rfl, hpc⟩, ⟨_, _, rfl, ⟨rfl, hcall⟩, ⟨_, _, rfl, ⟨vargs, rfl, hargs⟩, ⟨_, _, rfl, ⟨vdata, rfl, hdata⟩, rfl⟩⟩⟩⟩⟩⟩⟩⟩
    exact ⟨vargs, vdata, rfl, hthread, hstop, htrap, hcount, hpc, hcall, hargs, hdata⟩
  · rintro ⟨vargs, vdata, rfl, hthread, hstop, htrap, hcount, hpc, hcall, hargs, hdata⟩
    exact ⟨_, _, rfl, ⟨rfl, hthread⟩, ⟨_, _, rfl, ⟨rfl, hstop⟩, ⟨_, _, rfl, ⟨rfl, htrap⟩, ⟨_, _, rfl, ⟨rfl, hcount⟩, ⟨_, _, rfl, ⟨rfl, hpc⟩, ⟨_, _, rfl, ⟨rfl, hcall⟩, ⟨_, _, rfl, ⟨vargs, rfl, hargs⟩, ⟨_, _, rfl, ⟨vdata, rfl, hdata⟩, rfl⟩⟩⟩⟩⟩⟩⟩⟩

structure Result where
  value : Canon
  data : List Canon
  spawn : Int
  wait : Bool
  deriving DecidableEq
def Result.sh : Sh Result := Sh.via (Sh.prod Canon.sh (Sh.prod (Sh.slice Canon.sh) (Sh.prod (Sh.int .i64) (Sh.prod Sh.bool Sh.unit)))) (fun x => (x.value, x.data, x.spawn, x.wait, ()))
theorem Result.rd_iff {S : Nat → Prop} {w : World} {x : Result} {cs : List Value} : Result.sh.rd S w x cs ↔ ∃ cvalue vdata, cs = cvalue ++ [vdata, .int .i64 x.spawn, .bool x.wait] ∧ Canon.sh.rd S w x.value cvalue ∧ SlV Canon.sh S w x.data vdata ∧ inK .i64 x.spawn := by
  constructor
  · rintro ⟨cvalue, _, rfl, hvalue, ⟨_, _, rfl, ⟨vdata, rfl, hdata⟩, ⟨_, _, rfl, ⟨rfl, hspawn⟩, ⟨_, _, rfl, rfl, rfl⟩⟩⟩⟩
    exact ⟨cvalue, vdata, by simp, hvalue, hdata, hspawn⟩
  · rintro ⟨cvalue, vdata, rfl, hvalue, hdata, hspawn⟩
    exact ⟨cvalue, ([vdata] ++ ([.int .i64 x.spawn] ++ ([.bool x.wait] ++ []))), by simp, hvalue, ⟨[vdata], ([.int .i64 x.spawn] ++ ([.bool x.wait] ++ [])), by simp, ⟨vdata, rfl, hdata⟩, ⟨[.int .i64 x.spawn], ([.bool x.wait] ++ []), by simp, ⟨rfl, hspawn⟩, ⟨[.bool x.wait], [], by simp, rfl, rfl⟩⟩⟩⟩

theorem Cell.at_ {S : Nat → Prop} {w : World} {l : List Cell} {A : Option Addr} {n c : Nat} (h : SlV Cell.sh S w l (.slice A n c)) {i : Nat} (hi : i < l.length) :
    ∃ b o, A = some ⟨b, o, none⟩ ∧ S b ∧ b < w.heap.size ∧ w.cell? ⟨b, o + i * 2, none⟩ = some (.int .u8 l[i].tag) ∧ w.cell? ⟨b, o + i * 2 + 1, none⟩ = some (.int .u16 l[i].val) ∧ 0 ≤ l[i].tag ∧ l[i].tag ≤ 255 ∧ 0 ≤ l[i].val ∧ l[i].val ≤ 65535 := by
  obtain ⟨b, o, cs, hA, hS, hlt, hr, ha⟩ := h.at_ hi
  obtain ⟨rfl, htag, hval⟩ := Cell.rd_iff.1 hr
  exact ⟨b, o, hA, hS, hlt, ha.c0, ha.tl.c0, htag.1, htag.2, hval.1, hval.2⟩

theorem Canon.at_ {S : Nat → Prop} {w : World} {l : List Canon} {A : Option Addr} {n c : Nat} (h : SlV Canon.sh S w l (.slice A n c)) {i : Nat} (hi : i < l.length) :
    ∃ b o, A = some ⟨b, o, none⟩ ∧ S b ∧ b < w.heap.size ∧ w.cell? ⟨b, o + i * 4, none⟩ = some (.int .u8 l[i].tag) ∧ w.cell? ⟨b, o + i * 4 + 1, none⟩ = some (.int .u16 l[i].val) ∧ w.cell? ⟨b, o + i * 4 + 2, none⟩ = some (.int .i64 l[i].region) ∧ w.cell? ⟨b, o + i * 4 + 3, none⟩ = some (.int .i64 l[i].offset) ∧ 0 ≤ l[i].tag ∧ l[i].tag ≤ 255 ∧ 0 ≤ l[i].val ∧ l[i].val ≤ 65535 ∧ -9223372036854775808 ≤ l[i].region ∧ l[i].region ≤ 9223372036854775807 ∧ -9223372036854775808 ≤ l[i].offset ∧ l[i].offset ≤ 9223372036854775807 := by
  obtain ⟨b, o, cs, hA, hS, hlt, hr, ha⟩ := h.at_ hi
  obtain ⟨rfl, htag, hval, hregion, hoffset⟩ := Canon.rd_iff.1 hr
  exact ⟨b, o, hA, hS, hlt, ha.c0, ha.tl.c0, ha.tl.tl.c0, ha.tl.tl.tl.c0, htag.1, htag.2, hval.1, hval.2, hregion.1, hregion.2, hoffset.1, hoffset.2⟩

theorem Place.at_ {S : Nat → Prop} {w : World} {l : List Place} {A : Option Addr} {n c : Nat} (h : SlV Place.sh S w l (.slice A n c)) {i : Nat} (hi : i < l.length) :
    ∃ b o, A = some ⟨b, o, none⟩ ∧ S b ∧ b < w.heap.size ∧ w.cell? ⟨b, o + i * 2, none⟩ = some (.int .i64 l[i].region) ∧ w.cell? ⟨b, o + i * 2 + 1, none⟩ = some (.int .i64 l[i].offset) ∧ -9223372036854775808 ≤ l[i].region ∧ l[i].region ≤ 9223372036854775807 ∧ -9223372036854775808 ≤ l[i].offset ∧ l[i].offset ≤ 9223372036854775807 := by
  obtain ⟨b, o, cs, hA, hS, hlt, hr, ha⟩ := h.at_ hi
  obtain ⟨rfl, hregion, hoffset⟩ := Place.rd_iff.1 hr
  exact ⟨b, o, hA, hS, hlt, ha.c0, ha.tl.c0, hregion.1, hregion.2, hoffset.1, hoffset.2⟩

theorem View.at_ {S : Nat → Prop} {w : World} {l : List View} {A : Option Addr} {n c : Nat} (h : SlV View.sh S w l (.slice A n c)) {i : Nat} (hi : i < l.length) :
    ∃ b o vregs, A = some ⟨b, o, none⟩ ∧ S b ∧ b < w.heap.size ∧ w.cell? ⟨b, o + i * 8, none⟩ = some (.int .i64 l[i].state) ∧ w.cell? ⟨b, o + i * 8 + 1, none⟩ = some (.int .i64 l[i].pc) ∧ w.cell? ⟨b, o + i * 8 + 2, none⟩ = some (.int .i64 l[i].count) ∧ w.cell? ⟨b, o + i * 8 + 3, none⟩ = some (.int .i64 l[i].handler) ∧ w.cell? ⟨b, o + i * 8 + 4, none⟩ = some (.int .i64 l[i].saved) ∧ w.cell? ⟨b, o + i * 8 + 5, none⟩ = some (.int .i64 l[i].trap) ∧ w.cell? ⟨b, o + i * 8 + 6, none⟩ = some (.int .u16 l[i].code) ∧ w.cell? ⟨b, o + i * 8 + 7, none⟩ = some vregs ∧ -9223372036854775808 ≤ l[i].state ∧ l[i].state ≤ 9223372036854775807 ∧ -9223372036854775808 ≤ l[i].pc ∧ l[i].pc ≤ 9223372036854775807 ∧ -9223372036854775808 ≤ l[i].count ∧ l[i].count ≤ 9223372036854775807 ∧ -9223372036854775808 ≤ l[i].handler ∧ l[i].handler ≤ 9223372036854775807 ∧ -9223372036854775808 ≤ l[i].saved ∧ l[i].saved ≤ 9223372036854775807 ∧ -9223372036854775808 ≤ l[i].trap ∧ l[i].trap ≤ 9223372036854775807 ∧ 0 ≤ l[i].code ∧ l[i].code ≤ 65535 ∧ SlV Canon.sh S w l[i].regs vregs := by
  obtain ⟨b, o, cs, hA, hS, hlt, hr, ha⟩ := h.at_ hi
  obtain ⟨vregs, rfl, hstate, hpc, hcount, hhandler, hsaved, htrap, hcode, hregs⟩ := View.rd_iff.1 hr
  exact ⟨b, o, vregs, hA, hS, hlt, ha.c0, ha.tl.c0, ha.tl.tl.c0, ha.tl.tl.tl.c0, ha.tl.tl.tl.tl.c0, ha.tl.tl.tl.tl.tl.c0, ha.tl.tl.tl.tl.tl.tl.c0, ha.tl.tl.tl.tl.tl.tl.tl.c0, hstate.1, hstate.2, hpc.1, hpc.2, hcount.1, hcount.2, hhandler.1, hhandler.2, hsaved.1, hsaved.2, htrap.1, htrap.2, hcode.1, hcode.2, hregs⟩

theorem Output.at_ {S : Nat → Prop} {w : World} {l : List Output} {A : Option Addr} {n c : Nat} (h : SlV Output.sh S w l (.slice A n c)) {i : Nat} (hi : i < l.length) :
    ∃ b o vdata, A = some ⟨b, o, none⟩ ∧ S b ∧ b < w.heap.size ∧ w.cell? ⟨b, o + i * 3, none⟩ = some (.int .i64 l[i].seq) ∧ w.cell? ⟨b, o + i * 3 + 1, none⟩ = some (.int .i64 l[i].socket) ∧ w.cell? ⟨b, o + i * 3 + 2, none⟩ = some vdata ∧ -9223372036854775808 ≤ l[i].seq ∧ l[i].seq ≤ 9223372036854775807 ∧ -9223372036854775808 ≤ l[i].socket ∧ l[i].socket ≤ 9223372036854775807 ∧ SlV Canon.sh S w l[i].data vdata := by
  obtain ⟨b, o, cs, hA, hS, hlt, hr, ha⟩ := h.at_ hi
  obtain ⟨vdata, rfl, hseq, hsocket, hdata⟩ := Output.rd_iff.1 hr
  exact ⟨b, o, vdata, hA, hS, hlt, ha.c0, ha.tl.c0, ha.tl.tl.c0, hseq.1, hseq.2, hsocket.1, hsocket.2, hdata⟩

theorem Opn.at_ {S : Nat → Prop} {w : World} {l : List Opn} {A : Option Addr} {n c : Nat} (h : SlV Opn.sh S w l (.slice A n c)) {i : Nat} (hi : i < l.length) :
    ∃ b o, A = some ⟨b, o, none⟩ ∧ S b ∧ b < w.heap.size ∧ w.cell? ⟨b, o + i * 3, none⟩ = some (.int .i64 l[i].file) ∧ w.cell? ⟨b, o + i * 3 + 1, none⟩ = some (.int .i64 l[i].offset) ∧ w.cell? ⟨b, o + i * 3 + 2, none⟩ = some (.bool l[i].write) ∧ -9223372036854775808 ≤ l[i].file ∧ l[i].file ≤ 9223372036854775807 ∧ -9223372036854775808 ≤ l[i].offset ∧ l[i].offset ≤ 9223372036854775807 := by
  obtain ⟨b, o, cs, hA, hS, hlt, hr, ha⟩ := h.at_ hi
  obtain ⟨rfl, hfile, hoffset⟩ := Opn.rd_iff.1 hr
  exact ⟨b, o, hA, hS, hlt, ha.c0, ha.tl.c0, ha.tl.tl.c0, hfile.1, hfile.2, hoffset.1, hoffset.2⟩

theorem Files.at_ {S : Nat → Prop} {w : World} {l : List Files} {A : Option Addr} {n c : Nat} (h : SlV Files.sh S w l (.slice A n c)) {i : Nat} (hi : i < l.length) :
    ∃ b o vdata vopens, A = some ⟨b, o, none⟩ ∧ S b ∧ b < w.heap.size ∧ w.cell? ⟨b, o + i * 2, none⟩ = some vdata ∧ w.cell? ⟨b, o + i * 2 + 1, none⟩ = some vopens ∧ SlV (Sh.slice Canon.sh) S w l[i].data vdata ∧ SlV Opn.sh S w l[i].opens vopens := by
  obtain ⟨b, o, cs, hA, hS, hlt, hr, ha⟩ := h.at_ hi
  obtain ⟨vdata, vopens, rfl, hdata, hopens⟩ := Files.rd_iff.1 hr
  exact ⟨b, o, vdata, vopens, hA, hS, hlt, ha.c0, ha.tl.c0, hdata, hopens⟩

theorem State.at_ {S : Nat → Prop} {w : World} {l : List State} {A : Option Addr} {n c : Nat} (h : SlV State.sh S w l (.slice A n c)) {i : Nat} (hi : i < l.length) :
    ∃ b o vregions vthreads, A = some ⟨b, o, none⟩ ∧ S b ∧ b < w.heap.size ∧ w.cell? ⟨b, o + i * 2, none⟩ = some vregions ∧ w.cell? ⟨b, o + i * 2 + 1, none⟩ = some vthreads ∧ SlV (Sh.slice Canon.sh) S w l[i].regions vregions ∧ SlV View.sh S w l[i].threads vthreads := by
  obtain ⟨b, o, cs, hA, hS, hlt, hr, ha⟩ := h.at_ hi
  obtain ⟨vregions, vthreads, rfl, hregions, hthreads⟩ := State.rd_iff.1 hr
  exact ⟨b, o, vregions, vthreads, hA, hS, hlt, ha.c0, ha.tl.c0, hregions, hthreads⟩

theorem PageID.at_ {S : Nat → Prop} {w : World} {l : List PageID} {A : Option Addr} {n c : Nat} (h : SlV PageID.sh S w l (.slice A n c)) {i : Nat} (hi : i < l.length) :
    ∃ b o, A = some ⟨b, o, none⟩ ∧ S b ∧ b < w.heap.size ∧ w.cell? ⟨b, o + i * 2, none⟩ = some (.int .i64 l[i].region) ∧ w.cell? ⟨b, o + i * 2 + 1, none⟩ = some (.int .i64 l[i].index) ∧ -9223372036854775808 ≤ l[i].region ∧ l[i].region ≤ 9223372036854775807 ∧ -9223372036854775808 ≤ l[i].index ∧ l[i].index ≤ 9223372036854775807 := by
  obtain ⟨b, o, cs, hA, hS, hlt, hr, ha⟩ := h.at_ hi
  obtain ⟨rfl, hregion, hindex⟩ := PageID.rd_iff.1 hr
  exact ⟨b, o, hA, hS, hlt, ha.c0, ha.tl.c0, hregion.1, hregion.2, hindex.1, hindex.2⟩

theorem Tree.at_ {S : Nat → Prop} {w : World} {l : List Tree} {A : Option Addr} {n c : Nat} (h : SlV Tree.sh S w l (.slice A n c)) {i : Nat} (hi : i < l.length) :
    ∃ b o vlevels, A = some ⟨b, o, none⟩ ∧ S b ∧ b < w.heap.size ∧ w.cell? ⟨b, o + i * 1, none⟩ = some vlevels ∧ SlV (Sh.slice (Sh.int .u32)) S w l[i].levels vlevels := by
  obtain ⟨b, o, cs, hA, hS, hlt, hr, ha⟩ := h.at_ hi
  obtain ⟨vlevels, rfl, hlevels⟩ := Tree.rd_iff.1 hr
  exact ⟨b, o, vlevels, hA, hS, hlt, ha.c0, hlevels⟩

theorem Gateway.at_ {S : Nat → Prop} {w : World} {l : List Gateway} {A : Option Addr} {n c : Nat} (h : SlV Gateway.sh S w l (.slice A n c)) {i : Nat} (hi : i < l.length) :
    ∃ b o vheld, A = some ⟨b, o, none⟩ ∧ S b ∧ b < w.heap.size ∧ w.cell? ⟨b, o + i * 4, none⟩ = some (.int .i64 l[i].next) ∧ w.cell? ⟨b, o + i * 4 + 1, none⟩ = some (.int .i64 l[i].free) ∧ w.cell? ⟨b, o + i * 4 + 2, none⟩ = some (.int .i64 l[i].acked) ∧ w.cell? ⟨b, o + i * 4 + 3, none⟩ = some vheld ∧ -9223372036854775808 ≤ l[i].next ∧ l[i].next ≤ 9223372036854775807 ∧ -9223372036854775808 ≤ l[i].free ∧ l[i].free ≤ 9223372036854775807 ∧ -9223372036854775808 ≤ l[i].acked ∧ l[i].acked ≤ 9223372036854775807 ∧ SlV Output.sh S w l[i].held vheld := by
  obtain ⟨b, o, cs, hA, hS, hlt, hr, ha⟩ := h.at_ hi
  obtain ⟨vheld, rfl, hnext, hfree, hacked, hheld⟩ := Gateway.rd_iff.1 hr
  exact ⟨b, o, vheld, hA, hS, hlt, ha.c0, ha.tl.c0, ha.tl.tl.c0, ha.tl.tl.tl.c0, hnext.1, hnext.2, hfree.1, hfree.2, hacked.1, hacked.2, hheld⟩

theorem Mailbox.at_ {S : Nat → Prop} {w : World} {l : List Mailbox} {A : Option Addr} {n c : Nat} (h : SlV Mailbox.sh S w l (.slice A n c)) {i : Nat} (hi : i < l.length) :
    ∃ b o vtaken, A = some ⟨b, o, none⟩ ∧ S b ∧ b < w.heap.size ∧ w.cell? ⟨b, o + i * 3, none⟩ = some (.int .i64 l[i].next) ∧ w.cell? ⟨b, o + i * 3 + 1, none⟩ = some (.int .i64 l[i].epoch) ∧ w.cell? ⟨b, o + i * 3 + 2, none⟩ = some vtaken ∧ -9223372036854775808 ≤ l[i].next ∧ l[i].next ≤ 9223372036854775807 ∧ -9223372036854775808 ≤ l[i].epoch ∧ l[i].epoch ≤ 9223372036854775807 ∧ SlV Output.sh S w l[i].taken vtaken := by
  obtain ⟨b, o, cs, hA, hS, hlt, hr, ha⟩ := h.at_ hi
  obtain ⟨vtaken, rfl, hnext, hepoch, htaken⟩ := Mailbox.rd_iff.1 hr
  exact ⟨b, o, vtaken, hA, hS, hlt, ha.c0, ha.tl.c0, ha.tl.tl.c0, hnext.1, hnext.2, hepoch.1, hepoch.2, htaken⟩

theorem Note.at_ {S : Nat → Prop} {w : World} {l : List Note} {A : Option Addr} {n c : Nat} (h : SlV Note.sh S w l (.slice A n c)) {i : Nat} (hi : i < l.length) :
    ∃ b o vbytes, A = some ⟨b, o, none⟩ ∧ S b ∧ b < w.heap.size ∧ w.cell? ⟨b, o + i * 4, none⟩ = some (.int .i64 l[i].kind) ∧ w.cell? ⟨b, o + i * 4 + 1, none⟩ = some (.int .i64 l[i].number) ∧ w.cell? ⟨b, o + i * 4 + 2, none⟩ = some (.int .i64 l[i].state) ∧ w.cell? ⟨b, o + i * 4 + 3, none⟩ = some vbytes ∧ -9223372036854775808 ≤ l[i].kind ∧ l[i].kind ≤ 9223372036854775807 ∧ -9223372036854775808 ≤ l[i].number ∧ l[i].number ≤ 9223372036854775807 ∧ -9223372036854775808 ≤ l[i].state ∧ l[i].state ≤ 9223372036854775807 ∧ SlV (Sh.int .u8) S w l[i].bytes vbytes := by
  obtain ⟨b, o, cs, hA, hS, hlt, hr, ha⟩ := h.at_ hi
  obtain ⟨vbytes, rfl, hkind, hnumber, hstate, hbytes⟩ := Note.rd_iff.1 hr
  exact ⟨b, o, vbytes, hA, hS, hlt, ha.c0, ha.tl.c0, ha.tl.tl.c0, ha.tl.tl.tl.c0, hkind.1, hkind.2, hnumber.1, hnumber.2, hstate.1, hstate.2, hbytes⟩

theorem Request.at_ {S : Nat → Prop} {w : World} {l : List Request} {A : Option Addr} {n c : Nat} (h : SlV Request.sh S w l (.slice A n c)) {i : Nat} (hi : i < l.length) :
    ∃ b o vargs vdata, A = some ⟨b, o, none⟩ ∧ S b ∧ b < w.heap.size ∧ w.cell? ⟨b, o + i * 8, none⟩ = some (.int .i64 l[i].thread) ∧ w.cell? ⟨b, o + i * 8 + 1, none⟩ = some (.int .i64 l[i].stop) ∧ w.cell? ⟨b, o + i * 8 + 2, none⟩ = some (.int .i64 l[i].trap) ∧ w.cell? ⟨b, o + i * 8 + 3, none⟩ = some (.int .i64 l[i].count) ∧ w.cell? ⟨b, o + i * 8 + 4, none⟩ = some (.int .i64 l[i].pc) ∧ w.cell? ⟨b, o + i * 8 + 5, none⟩ = some (.int .i64 l[i].call) ∧ w.cell? ⟨b, o + i * 8 + 6, none⟩ = some vargs ∧ w.cell? ⟨b, o + i * 8 + 7, none⟩ = some vdata ∧ -9223372036854775808 ≤ l[i].thread ∧ l[i].thread ≤ 9223372036854775807 ∧ -9223372036854775808 ≤ l[i].stop ∧ l[i].stop ≤ 9223372036854775807 ∧ -9223372036854775808 ≤ l[i].trap ∧ l[i].trap ≤ 9223372036854775807 ∧ -9223372036854775808 ≤ l[i].count ∧ l[i].count ≤ 9223372036854775807 ∧ -9223372036854775808 ≤ l[i].pc ∧ l[i].pc ≤ 9223372036854775807 ∧ -9223372036854775808 ≤ l[i].call ∧ l[i].call ≤ 9223372036854775807 ∧ SlV Canon.sh S w l[i].args vargs ∧ SlV Canon.sh S w l[i].data vdata := by
  obtain ⟨b, o, cs, hA, hS, hlt, hr, ha⟩ := h.at_ hi
  obtain ⟨vargs, vdata, rfl, hthread, hstop, htrap, hcount, hpc, hcall, hargs, hdata⟩ := Request.rd_iff.1 hr
  exact ⟨b, o, vargs, vdata, hA, hS, hlt, ha.c0, ha.tl.c0, ha.tl.tl.c0, ha.tl.tl.tl.c0, ha.tl.tl.tl.tl.c0, ha.tl.tl.tl.tl.tl.c0, ha.tl.tl.tl.tl.tl.tl.c0, ha.tl.tl.tl.tl.tl.tl.tl.c0, hthread.1, hthread.2, hstop.1, hstop.2, htrap.1, htrap.2, hcount.1, hcount.2, hpc.1, hpc.2, hcall.1, hcall.2, hargs, hdata⟩

end Rdn
