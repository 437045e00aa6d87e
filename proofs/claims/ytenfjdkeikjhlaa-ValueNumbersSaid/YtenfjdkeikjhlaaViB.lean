/-
  The abstract machine, second part: what makes memory, what writes, regions in an open order, code, calls.
-/
import Derived.Test.YtenfjdkeikjhlaaViA
set_option autoImplicit false
namespace Go.VI

/-! ### 4. Equality by sight -/
mutual
def Loc.beq : Loc → Loc → Bool
  | .mt a, .mt b => a == b
  | .im a, .im b => AV.beqs a b
  | _, _ => false
def AV.beq : AV → AV → Bool
  | .bool a, .bool b => a == b
  | .int k a, .int j b => decide (k = j) && eqI a b
  | .str a, .str b => eqS a b
  | .nilp, .nilp => true
  | .ptr l a, .ptr m b => Loc.beq l m && a == b
  | .nils, .nils => true
  | .sl l a n c, .sl m b n' c' => Loc.beq l m && a == b && n == n' && c == c'
  | .nilm, .nilm => true
  | .map a, .map b => a == b
  | .fn f a b, .fn g c d => decide (f = g) && AV.beqs a c && AV.beqs b d
  | .nilf, .nilf => true
  | .ifc t a, .ifc u b => t == u && AV.beq a b
  | .nili, .nili => true
  | .agg a, .agg b => AV.beqs a b
  | .tup a, .tup b => AV.beqs a b
  | _, _ => false
def AV.beqs : List AV → List AV → Bool
  | [], [] => true
  | a :: r, b :: s => AV.beq a b && AV.beqs r s
  | _, _ => false
end

/-! ### 5. What makes memory -/
def freshSl (b n c : Nat) : AV := .sl (.mt b) 0 n c
def bytesA (s : List UInt8) : List AV := s.map fun b => .int .u8 b.toNat
def mkRow (cells : List AV) (t : TypeId) : AObj × (Nat → AV) := (.row cells t false none, fun b => .ptr (.mt b) 0)
def doAlloc (P : Program) (t : TypeId) : Option (AObj × (Nat → AV)) :=
  match zeroOf P t with
  | some z => some (mkRow z.cells t)
  | none => none
def doBox (e : Env) (t : TypeId) (x : Operand) : Option (AObj × (Nat → AV)) :=
  match ev e x with
  | some v => some (mkRow v.cells t)
  | none => none
def buildSl (el : TypeId) (s n : Nat) (z : AV) (ps : List (Nat × AV)) : Option (AObj × (Nat → AV)) :=
  match Nat.ble (n * s) 16777216, Nat.beq z.cells.length s, fillA (fun i => some (i * s, s)) (reps n z.cells) ps with
  | true, true, some cells => some (.row cells el false none, fun b => freshSl b n n)
  | _, _, _ => none
def buildSl1 (P : Program) (el : TypeId) (n : Nat) (ps : List (Nat × AV)) : Option (AObj × (Nat → AV)) :=
  match csz P el, zeroOf P el with
  | some (s + 1), some z => buildSl el (s + 1) n z ps
  | _, _ => none
def doBuildSlice (P : Program) (e : Env) (t : TypeId) (n : Nat) (parts : Array (Nat × Operand)) : Option (AObj × (Nat → AV)) :=
  match P.underlying t, evParts e parts.toList with
  | some (.slice el), some ps => buildSl1 P el n ps
  | _, _ => none
def mkMap : AObj × (Nat → AV) := (.map [], fun b => .map b)
def doMakeMap (P : Program) (e : Env) (t : TypeId) (r : Option Operand) : Option (AObj × (Nat → AV)) :=
  match P.underlying t, optEv e r with
  | some (.map _ _), some none => some mkMap
  | some (.map _ _), some (some (.int _ _)) => some mkMap
  | _, _ => none
def makeSl (el : TypeId) (s by_ : Nat) (z : AV) (l c : Int) : Option (AObj × (Nat → AV)) :=
  match l, c with
  | .ofNat l, .ofNat c =>
    match Nat.ble l c, Nat.ble (c * (by_ + 1)) 70368744177664, Nat.beq z.cells.length s with
    | true, true, true => some (.row (reps c z.cells) el false none, fun b => freshSl b l c)
    | _, _, _ => none
  | _, _ => none
def makeSl1 (P : Program) (el : TypeId) (l c : Int) : Option (AObj × (Nat → AV)) :=
  match csz P el, zeroOf P el, byt P el with
  | some (s + 1), some z, some by_ => makeSl el (s + 1) by_ z l c
  | _, _, _ => none
def doMakeSlice (P : Program) (e : Env) (t : TypeId) (l c : Operand) : Option (AObj × (Nat → AV)) :=
  match P.underlying t, ev e l, ev e c with
  | some (.slice el), some (.int .i64 l), some (.int .i64 c) => makeSl1 P el l c
  | _, _, _ => none
def strBytes (P : Program) (el : TypeId) (v : List UInt8) : Option (AObj × (Nat → AV)) :=
  match P.underlying el, csz P el, Nat.ble v.length 70368744177664 with
  | some (.int .u8), some 1, true => some (.row (bytesA v) el true none, fun b => freshSl b v.length v.length)
  | _, _, _ => none
def doStrBytes (P : Program) (e : Env) (s d : TypeId) (x : Operand) : Option (AObj × (Nat → AV)) :=
  match P.underlying s, P.underlying d, ev e x with
  | some .string, some (.slice el), some (.str v) => strBytes P el v
  | _, _, _ => none
def doRange (P : Program) (e : Env) (t : TypeId) (x : Operand) : Option (AObj × (Nat → AV)) :=
  match P.underlying t, ev e x with
  | some .string, some (.str s) => some (.siter s 0, fun b => .ptr (.mt b) 0)
  | _, _ => none
def allocOp (P : Program) (e : Env) (op : Op) : Option (AObj × (Nat → AV)) :=
  match op with
  | .alloc t => doAlloc P t
  | .box t x => doBox e t x
  | .buildSlice t n parts => doBuildSlice P e t n parts
  | .makeMap t r => doMakeMap P e t r
  | .makeSlice t l c => doMakeSlice P e t l c
  | .convert s d x => doStrBytes P e s d x
  | .range t x => doRange P e t x
  | _ => none

/-! ### 6. append, copy, maps -/
/-- The cells of what is appended or copied. -/
def srcCells (h : AH) (e : Nat) : AV → Option (Nat × List AV)
  | .nils => some (0, [])
  | .str s => if e = 1 then some (s.length, bytesA s) else none
  | .sl l o n _ => match h.read l o (n * e) with
    | some cs => some (n, cs)
    | none => none
  | _ => none
def firstSrc (h : AH) (e n : Nat) : AV → Option (List AV)
  | .nils => some []
  | .str s => if e = 1 then some (bytesA (s.take n)) else none
  | .sl l o _ _ => h.read l o (n * e)
  | _ => none
def srcLen : AV → Option Nat
  | .nils => some 0
  | .str s => some s.length
  | .sl _ _ n _ => some n
  | _ => none

def room (n by_ : Nat) : Bool := Nat.ble (n * (by_ + 1)) 70368744177664
def newRowA (h : AH) (el : TypeId) (n : Nat) (cells : List AV) : AV × AH := (freshSl h.n n n, h.push (.row cells el true none))
/-- The block grows at its end: the old and the new one are of one family. -/
def growFam (h : AH) (el : TypeId) (b : Nat) (cells : List AV) (el' : TypeId) (opn : Bool) (p off f' : Nat) (all : List AV) (fs : Tr (Option Nat × Nat)) : AH :=
  ⟨h.n + 1, (h.o.set b (.row cells el' opn (some (f', p)))).set h.n (.row all el true (some (f', p + off))), fs.set f' (none, h.n)⟩
def growEnd (h : AH) (el : TypeId) (b : Nat) (cells : List AV) (el' : TypeId) (opn : Bool) (fam : Option (Nat × Nat)) (off : Nat) (all : List AV) : AH :=
  match fam with
  | none => growFam h el b cells el' opn 0 off h.n all h.f
  | some (f, p) => match h.f.get f with
    | some (none, tip) => match Nat.beq tip b with
      | true => growFam h el b cells el' opn p off f all h.f
      | false => growFam h el b cells el' opn p off h.n all (h.f.set f (some h.n, h.n))
    | _ => growFam h el b cells el' opn p off h.n all (h.f.set f (some h.n, h.n))
/-- It grows elsewhere than at its end: nobody looks at the old ones. -/
def growIn (h : AH) (el : TypeId) (b : Nat) (fam : Option (Nat × Nat)) (all : List AV) : AH :=
  ⟨h.n + 1, (h.o.set b .dead).set h.n (.row all el true none), match fam with | none => h.f | some (f, _) => h.f.set f (some h.n, h.n)⟩
def growRow (h : AH) (el : TypeId) (e n : Nat) (b : Nat) (cells : List AV) (el' : TypeId) (opn : Bool) (fam : Option (Nat × Nat)) (off len cap : Nat) (all : List AV) : AV × AH :=
  match opn && Nat.beq (off + cap * e) cells.length, Nat.beq len cap with
  | false, _ => newRowA h el n all
  | true, true => (freshSl h.n n n, growEnd h el b cells el' opn fam off all)
  | true, false => (freshSl h.n n n, growIn h el b fam all)
def appendIm (h : AH) (el : TypeId) (e by_ : Nat) (cells : List AV) (off len cap k : Nat) (new : List AV) : Option (AV × AH) :=
  match Nat.ble (len + k) cap, Nat.beq k 0, room (len + k) by_, h.read (.im cells) off (len * e) with
  | true, true, _, _ => some (.sl (.im cells) off len cap, h)
  | false, _, true, some old => some (newRowA h el (len + k) (old ++ new))
  | _, _, _, _ => none
def appendMt (h : AH) (el : TypeId) (e by_ : Nat) (b : Nat) (off len cap k : Nat) (new : List AV) : Option (AV × AH) :=
  match h.at b, Nat.ble (len + k) cap, Nat.beq k 0 with
  | some (.row _ _ _ _), true, true => some (.sl (.mt b) off len cap, h)
  | some (.row _ _ _ _), true, false => (h.write (.mt b) (off + len * e) new).map fun h' => (.sl (.mt b) off (len + k) cap, h')
  | some (.row cells el' opn fam), false, _ =>
    match room (len + k) by_, Nat.ble (off + len * e) cells.length && (!opn || Nat.beq el' el) with
    | true, true => some (growRow h el e (len + k) b cells el' opn fam off len cap ((cells.drop off).take (len * e) ++ new))
    | _, _ => none
  | _, _, _ => none
def appendNil (h : AH) (el : TypeId) (by_ k : Nat) (new : List AV) : Option (AV × AH) :=
  match Nat.beq k 0, room k by_ with
  | true, _ => some (.nils, h)
  | false, true => some (newRowA h el k new)
  | _, _ => none
def appendA (h : AH) (el : TypeId) (e by_ : Nat) (s : AV) (k : Nat) (new : List AV) : Option (AV × AH) :=
  match s with
  | .nils => appendNil h el by_ k new
  | .sl (.im cells) off len cap => appendIm h el e by_ cells off len cap k new
  | .sl (.mt b) off len cap => appendMt h el e by_ b off len cap k new
  | _ => none

def findI (P : Program) (t : TypeId) (k : AV) : List (AV × AV) → Nat → Option (Option Nat)
  | [], _ => some none
  | (k', _) :: r, i => match keyEq P t k k' with
    | some true => some (some i)
    | some false => findI P t k r (i + 1)
    | none => none
def mapPut (P : Program) (t : TypeId) (es : List (AV × AV)) (k v : AV) : Option (List (AV × AV)) :=
  match findI P t k es 0 with
  | some (some i) => some (es.set i (k, v))
  | some none => some (es ++ [(k, v)])
  | none => none
def mapDel (P : Program) (t : TypeId) (es : List (AV × AV)) (k : AV) : Option (List (AV × AV)) :=
  match findI P t k es 0 with
  | some (some i) => some (es.eraseIdx i)
  | some none => some es
  | none => none

/-! ### 7. Operations -/
inductive Out where
  | ret (v : AV)
  | pan (v : AV)
abbrev CallF := FuncId → List AV → AH → Option (Out × AH)
inductive ADef where
  | fn (f : FuncId) (captured args : List AV)
  | del (t : TypeId) (m k : AV)
inductive OpR where
  | val (v : AV) (h : AH)
  | pan (v : AV) (h : AH)
  | dfr (d : ADef)

def ofOut : Option (Out × AH) → Option OpR
  | some (.ret v, h) => some (.val v h)
  | some (.pan v, h) => some (.pan v h)
  | none => none
def methodA (P : Program) (t : TypeId) (name : String) : Option FuncId :=
  match P.info? t with
  | some i => match i.methods.find? (·.name == name) with
    | some m => if m.path.size = 0 then
        match m.func, P.underlying t with
        | some (f, true), some (.pointer _) => some f
        | some (_, _), some (.pointer _) => none
        | some (_, false), some (.interface _) => none
        | some (f, false), some _ => some f
        | _, _ => none
      else none
    | none => none
  | none => none

def unit (o : Option AH) : Option OpR :=
  match o with
  | some h => some (.val (.tup []) h)
  | none => none
def doStore (P : Program) (e : Env) (h : AH) (t : TypeId) (x y : Operand) : Option OpR :=
  match ev e x, ev e y, csz P t with
  | some (.ptr l o), some v, some s => match Nat.beq v.cells.length s with
    | true => unit (h.write l o v.cells)
    | false => none
  | _, _, _ => none
def mapWith (h : AH) (b : Nat) (f : List (AV × AV) → Option (List (AV × AV))) : Option AH :=
  match h.at b with
  | some (.map es) => match f es with
    | some es' => some (h.put b (.map es'))
    | none => none
  | _ => none
def doMapUpdate (P : Program) (e : Env) (h : AH) (t : TypeId) (m k x : Operand) : Option OpR :=
  match P.underlying t, ev e m, ev e k, ev e x with
  | some (.map kt _), some (.map b), some kv, some v => match keyOk P kt kv with
    | true => unit (mapWith h b fun es => mapPut P kt es kv v)
    | false => none
  | _, _, _, _ => none
def valH : Option (AV × AH) → Option OpR
  | some (v, h) => some (.val v h)
  | none => none
def appendBy (P : Program) (h : AH) (el : TypeId) (s v : AV) : Option OpR :=
  match csz P el, byt P el, zeroOf P el with
  | some (sz + 1), some by_, some z => match Nat.beq z.cells.length (sz + 1), srcCells h (sz + 1) v with
    | true, some (k, new) => match ones new with
      | true => valH (appendA h el (sz + 1) by_ s k new)
      | false => none
    | _, _ => none
  | _, _, _ => none
def isIntT : TypeDesc → Bool
  | .int _ => true
  | _ => false
def doAppend (P : Program) (e : Env) (h : AH) (as : List Operand) (ts : List TypeId) : Option OpR :=
  match as, ts with
  | [x, y], [t, u] => match P.underlying t, P.underlying u, ev e x, ev e y with
    | some (.slice el), some d, some s, some v => match isIntT d with
      | false => appendBy P h el s v
      | true => none
    | _, _, _, _ => none
  | _, _ => none
def copyTo (h : AH) (l : Loc) (o k : Nat) : Option (List AV) → Option OpR
  | some cs => match Nat.beq k 0 with
    | true => some (.val (.int .i64 0) h)
    | false => match h.write l o cs with
      | some h' => some (.val (.int .i64 k) h')
      | none => none
  | none => none
def copyBy (P : Program) (h : AH) (el : TypeId) (d v : AV) : Option OpR :=
  match csz P el, srcLen v, d with
  | some (_ + 1), some _, .nils => some (.val (.int .i64 0) h)
  | some (sz + 1), some m, .sl l o n _ => copyTo h l o (Nat.min m n) (firstSrc h (sz + 1) (Nat.min m n) v)
  | _, _, _ => none
def doCopy (P : Program) (e : Env) (h : AH) (as : List Operand) (ts : List TypeId) : Option OpR :=
  match as, ts with
  | x :: y :: _, t :: _ => match P.underlying t, ev e x, ev e y with
    | some (.slice el), some d, some v => copyBy P h el d v
    | _, _, _ => none
  | _, _ => none
def doDelete (P : Program) (e : Env) (h : AH) (as : List Operand) (ts : List TypeId) : Option OpR :=
  match as, ts with
  | x :: y :: _, t :: _ => match P.underlying t, ev e x, ev e y with
    | some (.map kt _), some (.map b), some kv => match keyOk P kt kv with
      | true => unit (mapWith h b fun es => mapDel P kt es kv)
      | false => none
    | _, _, _ => none
  | _, _ => none
def doBuiltin (P : Program) (e : Env) (h : AH) (c : Call) (b : Builtin) : Option OpR :=
  match b with
  | .append => doAppend P e h c.args.toList c.argTypes.toList
  | .copy => doCopy P e h c.args.toList c.argTypes.toList
  | .delete => doDelete P e h c.args.toList c.argTypes.toList
  | _ => none
def doCallV (call : CallF) (e : Env) (h : AH) (f : Operand) (as : List Operand) : Option OpR :=
  match ev e f, evs e as with
  | some (.fn (.func g) first cap), some vs => ofOut (call g (first ++ vs ++ cap) h)
  | _, _ => none
def doInvoke (P : Program) (call : CallF) (e : Env) (h : AH) (r : Operand) (name : String) (as : List Operand) : Option OpR :=
  match ev e r, evs e as with
  | some (.ifc t v), some vs => match methodA P t name with
    | some g => ofOut (call g (v :: vs) h)
    | none => none
  | _, _ => none
def doCall (P : Program) (call : CallF) (e : Env) (h : AH) (c : Call) : Option OpR :=
  match c.callee with
  | .builtin b => doBuiltin P e h c b
  | .value f => doCallV call e h f c.args.toList
  | .invoke r name => doInvoke P call e h r name c.args.toList
def doStringish (P : Program) (e : Env) (h : AH) (s d : TypeId) (x : Operand) : Option OpR :=
  match P.underlying s, P.underlying d, ev e x with
  | some (.slice _), some (.slice el), some (.sl (.mt b) o n c) => match P.underlying el, h.at b, Nat.beq s d && Nat.blt 0 c with
    | some (.int .u8), some (.row _ _ _ _), true => some (.val (.sl (.mt b) o n c) h)
    | _, _, _ => none
  | _, _, _ => none
def doPanic (e : Env) (h : AH) (x : Operand) : Option OpR :=
  match ev e x with
  | some (.ifc t v) => some (.pan (.ifc t v) h)
  | _ => none
def deferV (e : Env) (f : Operand) (as : List Operand) : Option OpR :=
  match ev e f, evs e as with
  | some (.fn (.func g) first cap), some vs => some (.dfr (.fn g cap (first ++ vs)))
  | _, _ => none
def doDefer (e : Env) (c : Call) : Option OpR :=
  match c.callee with
  | .value f => deferV e f c.args.toList
  | _ => none
def loudOp (P : Program) (call : CallF) (e : Env) (h : AH) (op : Op) : Option OpR :=
  match op with
  | .store t x y => doStore P e h t x y
  | .mapUpdate t m k x => doMapUpdate P e h t m k x
  | .insert t m k x => doMapUpdate P e h t m k x
  | .call c => doCall P call e h c
  | .convert s d x => doStringish P e h s d x
  | .panic x => doPanic e h x
  | .defer c => doDefer e c
  | _ => none

inductive OpK where | read | alloc | loud
def kindConv (P : Program) (s d : TypeId) : OpK :=
  match P.underlying s, P.underlying d with
  | some (.slice _), some (.slice _) => .loud
  | _, some (.slice _) => .alloc
  | _, _ => .read
def kindCall (c : Call) : OpK :=
  match c.callee with
  | .builtin .len => .read
  | .builtin .min => .read
  | .builtin .max => .read
  | _ => .loud
def kindOp (P : Program) (op : Op) : OpK :=
  match op with
  | .move _ => .read
  | .assign _ => .read
  | .pick _ _ _ => .read
  | .build _ _ => .read
  | .nilCheck _ => .read
  | .binOp _ _ _ _ _ => .read
  | .unOp _ _ _ => .read
  | .makeInterface _ _ => .read
  | .makeFunc _ _ _ => .read
  | .fieldAddr _ _ _ => .read
  | .field _ _ _ => .read
  | .indexAddr _ _ _ => .read
  | .index _ _ _ => .read
  | .typeAssert _ _ _ _ => .read
  | .extract _ _ => .read
  | .load _ _ => .read
  | .slice _ _ _ _ _ => .read
  | .lookup _ _ _ _ => .read
  | .convert s d _ => kindConv P s d
  | .call c => kindCall c
  | .alloc _ => .alloc
  | .box _ _ => .alloc
  | .buildSlice _ _ _ => .alloc
  | .makeMap _ _ => .alloc
  | .makeSlice _ _ _ => .alloc
  | .range _ _ => .alloc
  | _ => .loud
def opA (P : Program) (call : CallF) (e : Env) (h : AH) (op : Op) : Option OpR :=
  match kindOp P op with
  | .read => (readOp P e h op).map fun v => .val v h
  | .alloc => (allocOp P e op).map fun r => .val (r.2 h.n) (h.push r.1)
  | .loud => loudOp P call e h op

structure St where
  e : Env
  h : AH
  d : List ADef
def putE (nt : Nat) (e : Env) : Option Nat → AV → Option Env
  | none, _ => some e
  | some d, v => match Nat.blt d nt with | true => some (e.set d v) | false => none
def wantedA (all : List Oper) (e : Env) (o : Oper) : Bool :=
  match o.guard with
  | none => true
  | some (j, want) => match all[j]? with
    | some p => match p.dst with
      | some d => match e.val d with
        | .bool b => b == want
        | _ => false
      | none => false
    | none => false
inductive ORes where
  | ok (s : St)
  | pan (v : AV) (s : St)

/-- A region in the order of the text. -/
def aops (P : Program) (nt : Nat) (call : CallF) (all : List Oper) : List Oper → St → Option ORes
  | [], s => some (.ok s)
  | o :: rest, s =>
    if wantedA all s.e o then
      match opA P call s.e s.h o.op with
      | some (.val v h) => match putE nt s.e o.dst v with
        | some e => aops P nt call all rest ⟨e, h, s.d⟩
        | none => none
      | some (.pan v h) => some (.pan v ⟨s.e, h, s.d⟩)
      | some (.dfr d) => match putE nt s.e o.dst (.tup []) with
        | some e => aops P nt call all rest ⟨e, s.h, d :: s.d⟩
        | none => none
      | none => none
    else match putE nt s.e o.dst (.tup []) with
      | some e => aops P nt call all rest ⟨e, s.h, s.d⟩
      | none => none

/-! ### 8. A region in an open order -/
/-- Of each operation those that must stand ahead of it, as a number's bits. -/
def masks : List Oper → List Nat → List Nat
  | [], acc => acc
  | o :: r, acc => masks r (acc ++ [o.after.toList.foldl (fun m e => if Region.binds .any e then m ||| 2 ^ e.on ||| acc.getD e.on 0 else m) 0])
def isLoud (P : Program) (o : Oper) : Bool := match kindOp P o.op with | .loud => true | _ => false
/-- the order in which the abstract machine goes: what is no loud one as soon as it can -/
def order (P : Program) (ops : List Oper) (ms : List Nat) : Nat → Nat → List Nat
  | 0, _ => []
  | f + 1, done =>
    let ready := fun i => !done.testBit i && (ms.getD i 0 &&& done) == ms.getD i 0
    let all := List.range ops.length
    match all.find? fun i => ready i && !(((ops[i]?).map (isLoud P)).getD true) with
    | some i => i :: order P ops ms f (done ||| 2 ^ i)
    | none => match all.find? ready with
      | some i => i :: order P ops ms f (done ||| 2 ^ i)
      | none => []
def operandTmps (op : Op) : List Nat := op.operands.toList.filterMap fun | .tmp t => some t | _ => none
/-- the temporaries that an operation looks at -/
def looks (ops : List Oper) (o : Oper) : List Nat :=
  operandTmps o.op ++ (match o.guard with | some (j, _) => (match ops[j]? with | some p => p.dst.toList | none => []) | none => [])
/-- Is the plan of a region sound? (It asks the text alone.) -/
def ordOk (ms : List Nat) : List Nat → Nat → Bool
  | [], _ => true
  | i :: r, done => !done.testBit i && ((ms.getD i 0 &&& done) == ms.getD i 0) && ordOk ms r (done ||| 2 ^ i)
def segOk (P : Program) (ops : List Oper) (ms : List Nat) : List Nat → Nat → Bool
  | [], _ => true
  | i :: r, louds => ((ms.getD i 0 &&& louds) == louds) && segOk P ops ms r (if ((ops[i]?).map (isLoud P)).getD true then louds ||| 2 ^ i else louds)
/-- who writes a temporary stands in order with whoever looks at it, and writes alone -/
def writeOk (ops : List Oper) (ms : List Nat) (i : Nat) (w : Oper) : Bool :=
  match w.dst with
  | none => true
  | some d => ops.zipIdx.all fun (o, j) => i == j || (!(o.dst == some d) && (!((looks ops o).contains d) || (ms.getD j 0).testBit i || (ms.getD i 0).testBit j))
def planOk (P : Program) (ops : List Oper) (ms ord : List Nat) : Bool :=
  ((List.range ops.length).all fun i => ord.contains i) && ordOk ms ord 0 && (ord.all fun i => i < ops.length) &&
  (ops.zipIdx.all fun (o, i) => o.after.toList.all fun e => !Region.binds .any e || e.on < i) &&
  segOk P ops ms ord 0 &&
  (ops.zipIdx.all fun (w, i) => writeOk ops ms i w)

/-- A look that was taken, which may be taken later too. -/
structure Look where
  i : Nat
  e : Env
  op : Op
  v : AV
def recheck (P : Program) (m : Nat) (h : AH) : List Look → Bool
  | [] => true
  | l :: r => (m.testBit l.i || (match readOp P l.e h l.op with | some v => AV.beq v l.v | none => false)) && recheck P m h r

/-- The temporaries that are named, and no other. -/
def only (e : Env) : List Nat → Env
  | [] => .lf
  | t :: r => (only e r).set t (e.val t)
def adraw (P : Program) (nt : Nat) (call : CallF) (all : List Oper) (ms : List Nat) : List Nat → List Look → St → Option St
  | [], _, s => some s
  | i :: rest, ls, s =>
    match all[i]? with
    | none => none
    | some o =>
      if wantedA all s.e o then
        match kindOp P o.op with
        | .read => match readOp P (only s.e (operandTmps o.op)) s.h o.op with
          | some v => match putE nt s.e o.dst v with
            | some e => adraw P nt call all ms rest (⟨i, only s.e (operandTmps o.op), o.op, v⟩ :: ls) ⟨e, s.h, s.d⟩
            | none => none
          | none => none
        | .alloc => match allocOp P (only s.e (operandTmps o.op)) o.op with
          | some (x, f) => match putE nt s.e o.dst (f s.h.n) with
            | some e => if recheck P 0 (s.h.push x) ls then adraw P nt call all ms rest ls ⟨e, s.h.push x, s.d⟩ else none
            | none => none
          | none => none
        | .loud => match loudOp P call (only s.e (operandTmps o.op)) s.h o.op with
          | some (.val v h) => match putE nt s.e o.dst v with
            | some e => if recheck P (ms.getD i 0) h ls then adraw P nt call all ms rest ls ⟨e, h, s.d⟩ else none
            | none => none
          | _ => none
      else match putE nt s.e o.dst (.tup []) with
        | some e => adraw P nt call all ms rest ls ⟨e, s.h, s.d⟩
        | none => none

def regionA (P : Program) (nt : Nat) (call : CallF) (ops : Array Oper) (draw : Bool) (s : St) : Option ORes :=
  if draw then
    let all := ops.toList
    let ms := masks all []
    let ord := order P all ms all.length 0
    if planOk P all ms ord then (adraw P nt call all ms ord [] s).map .ok else none
  else aops P nt call ops.toList ops.toList s

/-! ### 9. Code and calls -/
inductive AExit where
  | normal
  | exit (id : Nat)
  | ret
  | pan (v : AV)
def iter (body : St → Option (AExit × St)) : Nat → St → Option (AExit × St)
  | 0, _ => none
  | n + 1, s => match body s with
    | some (.normal, s') => iter body n s'
    | r => r
def aexec (P : Program) (nt : Nat) (call : CallF) (fuel : Nat) : Code → St → Option (AExit × St)
  | .skip, s => some (.normal, s)
  | .label _, s => some (.normal, s)
  | .region _ ops draw, s => match regionA P nt call ops draw s with
    | some (.ok s') => some (.normal, s')
    | some (.pan v s') => some (.pan v, s')
    | none => none
  | .seq a b, s => match aexec P nt call fuel a s with
    | some (.normal, s') => aexec P nt call fuel b s'
    | r => r
  | .cond c a b, s => match ev s.e c with
    | some (.bool true) => aexec P nt call fuel a s
    | some (.bool false) => aexec P nt call fuel b s
    | _ => none
  | .block id b, s => match aexec P nt call fuel b s with
    | some (.exit j, s') => if j = id then some (.normal, s') else some (.exit j, s')
    | r => r
  | .loop b, s => iter (aexec P nt call fuel b) fuel s
  | .scope c, s => aexec P nt call fuel c s
  | .exit id, s => some (.exit id, s)
  | .ret, s => some (.ret, s)
  | _, _ => none

def resultsA (P : Program) (s : St) : List ResultVar → Option (List AV)
  | [] => some []
  | .tmp t :: r => (resultsA P s r).map (s.e.val t :: ·)
  | .cell a t :: r => match s.e.val a, isAggB P t, csz P t, resultsA P s r with
    | .ptr l o, some true, some sz, some vs => match s.h.read l o sz with
      | some cs => some (.agg cs :: vs)
      | none => none
    | .ptr l o, some false, _, some vs => match s.h.read l o 1 with
      | some [v] => some (v :: vs)
      | _ => none
    | _, _, _, _ => none
def resultA (P : Program) (rs : List ResultVar) (s : St) : Option AV :=
  match resultsA P s rs with
  | some [v] => some v
  | some vs => some (.tup vs)
  | none => none
def envOf : Nat → List AV → Env → Env
  | _, [], e => e
  | i, v :: r, e => envOf (i + 1) r (e.set i v)
/-- The body of a function, where calls answer as 'call' says. -/
def abody (P : Program) (call : CallF) (n : Nat) : CallF := fun f args h =>
    match P.funcs[f]? with
    | some fn => match fn.body with
      | some c =>
        if args.length ≤ fn.ntmps then
          match aexec P fn.ntmps call n c ⟨envOf 0 args .lf, h, []⟩ with
          | some (.normal, s) | some (.ret, s) => match s.d with
            | [] => (resultA P fn.results.toList s).map fun v => (.ret v, s.h)
            | _ => none
          | some (.pan v, s) => match s.d with
            | [] => some (.pan v, s.h)
            | _ => none
          | _ => none
        else none
      | none => none
    | none => none
def orElseA (r q : Option (Out × AH)) : Option (Out × AH) := match r with | some x => some x | none => q
/-- Calls: what the oracle knows it says, else the body is gone through. -/
def acall (P : Program) (orc : CallF) : Nat → CallF
  | 0 => orc
  | n + 1 => fun f args h => orElseA (orc f args h) (abody P (acall P orc n) n f args h)
def noOrc : CallF := fun _ _ _ => none

/-- Is the answer 'true'? -/
def tells (r : Option (Out × AH)) : Bool := match r with | some (.ret (.bool b), _) => b | _ => false
def gives (v : AV) (r : Option (Out × AH)) : Bool := match r with | some (.ret u, _) => AV.beq u v | _ => false

/-! ### 10. Tables of answers -/
mutual
/-- A value that names no place. -/
def AV.flat : AV → Bool
  | .ptr _ _ => false
  | .sl _ _ _ _ => false
  | .map _ => false
  | .fn _ a b => AV.flats a && AV.flats b
  | .ifc _ a => AV.flat a
  | .agg l => AV.flats l
  | .tup l => AV.flats l
  | _ => true
def AV.flats : List AV → Bool
  | [] => true
  | a :: r => AV.flat a && AV.flats r
end
structure Row where
  f : Nat
  args : List AV
  v : AV
def lookT (f : Nat) (args : List AV) : List Row → Option AV
  | [] => none
  | r :: t => match Nat.beq r.f f && AV.beqs r.args args with
    | true => some r.v
    | false => lookT f args t
def table (t : List Row) : CallF := fun f args h => match lookT f args t with
  | some v => some (.ret v, h)
  | none => none
def Row.flat (r : Row) : Bool := AV.flats r.args && AV.flat r.v
end Go.VI
