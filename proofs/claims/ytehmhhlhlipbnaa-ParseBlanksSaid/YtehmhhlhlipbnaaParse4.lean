/-
 What the reader makes of tokens, as functions; what is said of its parts.
-/
import Derived.Test.YtehmhhlhlipbnaaParse3
set_option autoImplicit false
set_option linter.unusedVariables false
set_option linter.unusedSimpArgs false
namespace Go.Proofs.Ytehmhhlhlipbnaa.Vs
open Go.VI Go.Proofs
variable {orc : CallF}
/-- is the next token that text? -/
def mIs (tx : Nat → List UInt8) (T : List TK) (t : List UInt8) : PM Bool := fun s => some (.ok (isF tx T s.a t, s))
/-- the operators of a line of the grammar -/
def lineL (lv : Int) : List (List UInt8 × Int) :=
 if lv = 1 then [([124, 124], 11)] else if lv = 2 then [([38, 38], 12)] else if lv = 3 then [([61, 61], 21), ([33, 61], 22), ([60], 23), ([60, 61], 24), ([62], 25), ([62, 61], 26)]
 else if lv = 4 then [([43], 31), ([45], 32)] else if lv = 5 then [([42], 41), ([47], 42), ([37], 43)] else [([45], 1), ([33], 2), ([60, 45], 3)]
def mOps (tx : Nat → List UInt8) (T : List TK) : List (List UInt8 × Int) → PM Int
 | [] => pureP 0
 | p :: r => bindP (mGot tx T p.1) fun b => if b = true then pureP p.2 else mOps tx T r
/-- a list that may grow -/
def mLim (ks : List Int) : PM Unit := fun s => if ks.length < 1000000000 then some (.ok ((), s)) else none
section
variable (tx : Nat → List UInt8) (src : List UInt8) (T : List TK)
def mOp (lv : Int) : PM Int := mOps tx T (lineL lv)
def mEnd (k at_ : Int) (nm : List UInt8) (ks : List Int) : PM Int := bindP (mWant tx src T [59]) fun _ => mNode k at_ nm 0 ks
def mOpt : PM (List UInt8) := bindP (mKnd T) fun k => if k = 1 then mName src T else pureP []
mutual
def pTyp : Nat → PM Int
 | 0 => fun _ => none
 | f + 1 => bindP (mPlace src T) fun a => bindP (mKnd T) fun k => if k = 1 then bindP (mName src T) fun nm => mNode 3 a nm 0 [] else
  bindP (mGot tx T [105, 110, 116]) fun b => if b = true then mNode 1 a [] 0 [] else
  bindP (mGot tx T [98, 111, 111, 108]) fun b => if b = true then mNode 2 a [] 0 [] else
  bindP (mGot tx T [97, 114, 114, 97, 121]) fun b => if b = true then bindP (mWant tx src T [111, 102]) fun _ => bindP (pTyp f) fun t => mNode 4 a [] 0 [t] else
  bindP (mIs tx T [99, 104, 97, 110]) fun b => if b = true then pChan f else
  bindP (mGot tx T [40]) fun b => if b = true then bindP (pTyp f) fun t => bindP (mWant tx src T [44]) fun _ => bindP (pTypes f) fun ks => mNode 5 a [] 0 (t :: ks) else
  bindP (mGot tx T [112, 114, 111, 103]) fun b => if b = true then bindP (mWant tx src T [40]) fun _ => bindP (mGot tx T [41]) fun b => bindP (if b = true then pureP [] else pTypes f) fun ks => pRes f 7 a [] ks else
  mFail src T
def pChan : Nat → PM Int
 | 0 => fun _ => none
 | f + 1 => bindP (mWant tx src T [99, 104, 97, 110]) fun a => bindP (mWant tx src T [111, 102]) fun _ => bindP (pTyp f) fun t => mNode 6 a [] 0 [t]
def pTypes : Nat → PM (List Int)
 | 0 => fun _ => none
 | f + 1 => bindP (pTyp f) fun t => pTypesGo f [t]
def pTypesGo : Nat → List Int → PM (List Int)
 | 0, _ => fun _ => none
 | f + 1, ks => bindP (mLim ks) fun _ => bindP (mGot tx T [44]) fun b => if b = true then bindP (pTyp f) fun t => pTypesGo f (ks ++ [t]) else bindP (mWant tx src T [41]) fun _ => pureP ks
def pRes : Nat → Int → Int → List UInt8 → List Int → PM Int
 | 0, _, _, _, _ => fun _ => none
 | f + 1, k, a, nm, ks => bindP (mLim ks) fun _ => bindP (mGot tx T [58]) fun b => bindP (if b = true then bindP (pTyp f) fun t => pureP (ks ++ [t]) else pureP ks) fun ks2 =>
  bindP (if k = 20 then bindP (pBlock f) fun c => pureP (ks2 ++ [c]) else pureP ks2) fun ks3 => mNode k a nm (if b = true then 1 else 0) ks3
def pBlock : Nat → PM Int
 | 0 => fun _ => none
 | f + 1 => bindP (mWant tx src T [123]) fun a => pBlockGo f a []
def pBlockGo : Nat → Int → List Int → PM Int
 | 0, _, _ => fun _ => none
 | f + 1, a, ks => bindP (mLim ks) fun _ => bindP (mGot tx T [125]) fun b => if b = true then mNode 41 a [] 0 ks else bindP (pStm f) fun c => pBlockGo f a (ks ++ [c])
def pStm : Nat → PM Int
 | 0 => fun _ => none
 | f + 1 => bindP (mPlace src T) fun a =>
  bindP (mGot tx T [118, 97, 108]) fun b => if b = true then bindP (mName src T) fun nm => bindP (mWant tx src T [61]) fun _ => bindP (pExpr f) fun e => mEnd tx src T 31 a nm [e] else
  bindP (mGot tx T [118, 97, 114]) fun b => if b = true then bindP (mName src T) fun nm => bindP (mWant tx src T [58]) fun _ => bindP (pTyp f) fun t =>
   bindP (mGot tx T [61]) fun b => bindP (if b = true then bindP (pExpr f) fun e => pureP [t, e] else pureP [t]) fun ks => mEnd tx src T 32 a nm ks else
  bindP (mIs tx T [105, 102]) fun b => if b = true then pFork f else
  bindP (mGot tx T [119, 104, 105, 108, 101]) fun b => if b = true then bindP (pExpr f) fun e => bindP (pBlock f) fun c => mNode 37 a [] 0 [e, c] else
  bindP (mGot tx T [114, 101, 116, 117, 114, 110]) fun b => if b = true then bindP (mIs tx T [59]) fun b => bindP (if b = true then pureP [] else bindP (pExpr f) fun e => pureP [e]) fun ks => mEnd tx src T 38 a [] ks else
  bindP (mGot tx T [98, 101, 103, 105, 110]) fun b => if b = true then bindP (pExpr f) fun e => mEnd tx src T 39 a [] [e] else
  bindP (mIs tx T [115, 101, 108, 101, 99, 116]) fun b => if b = true then pChoice f else
  bindP (mIs tx T [123]) fun b => if b = true then pBlock f else
  bindP (pExpr f) fun e => bindP (mPlace src T) fun a2 =>
  bindP (mGot tx T [61]) fun b => if b = true then bindP (pExpr f) fun e2 => mEnd tx src T 33 a2 [] [e, e2] else
  bindP (mGot tx T [60, 45, 61]) fun b => if b = true then bindP (pExpr f) fun e2 => mEnd tx src T 34 a2 [] [e, e2] else
  mEnd tx src T 35 a [] [e]
def pFork : Nat → PM Int
 | 0 => fun _ => none
 | f + 1 => bindP (mWant tx src T [105, 102]) fun a => bindP (pExpr f) fun e => bindP (pBlock f) fun c =>
  bindP (mGot tx T [101, 108, 115, 101]) fun b => bindP (if b = true then bindP (mIs tx T [105, 102]) fun b => if b = true then bindP (pFork f) fun d => pureP [e, c, d] else bindP (pBlock f) fun d => pureP [e, c, d] else pureP [e, c]) fun ks => mNode 36 a [] 0 ks
def pChoice : Nat → PM Int
 | 0 => fun _ => none
 | f + 1 => bindP (mWant tx src T [115, 101, 108, 101, 99, 116]) fun a => bindP (mWant tx src T [123]) fun _ => pChoiceGo f a []
def pChoiceGo : Nat → Int → List Int → PM Int
 | 0, _, _ => fun _ => none
 | f + 1, a, ks => bindP (mLim ks) fun _ => bindP (mGot tx T [125]) fun b => if b = true then mNode 40 a [] 0 ks else bindP (pArm f) fun c => pChoiceGo f a (ks ++ [c])
def pArm : Nat → PM Int
 | 0 => fun _ => none
 | f + 1 => bindP (mWant tx src T [99, 97, 115, 101]) fun a =>
  bindP (fun s => if knF T s.a = 1 ∧ knF T (s.a + 1) = kindF tx [61] then (bindP (mName src T) fun nm => bindP (mWant tx src T [61]) fun _ => bindP (mIs tx T [60, 45]) fun b => if b = true then pureP nm else mFail src T) s else some (.ok ([], s))) fun nm =>
  bindP (mGot tx T [60, 45]) fun b => if b = true then bindP (pUn f) fun c => bindP (pBlock f) fun d => mNode 43 a nm 0 [c, d] else
  bindP (pExpr f) fun c => bindP (mWant tx src T [60, 45, 61]) fun _ => bindP (pExpr f) fun e => bindP (pBlock f) fun d => mNode 44 a [] 0 [c, e, d]
def pExpr : Nat → PM Int
 | 0 => fun _ => none
 | f + 1 => pBin f 1
def pBin : Nat → Int → PM Int
 | 0, _ => fun _ => none
 | f + 1, lv => if 5 < lv then pUn f else bindP (pBin f (lv + 1)) fun e => pBinGo f lv e
def pBinGo : Nat → Int → Int → PM Int
 | 0, _, _ => fun _ => none
 | f + 1, lv, e => bindP (mPlace src T) fun a => bindP (mOp tx T lv) fun op => if op = 0 then pureP e else bindP (pBin f (lv + 1)) fun e2 => bindP (mNode 22 a [] op [e, e2]) fun e3 => if lv = 3 then pureP e3 else pBinGo f lv e3
def pUn : Nat → PM Int
 | 0 => fun _ => none
 | f + 1 => bindP (mPlace src T) fun a => bindP (mOp tx T 6) fun op => if op ≠ 0 then bindP (pUn f) fun e => mNode 21 a [] op [e] else pPost f
def pPost : Nat → PM Int
 | 0 => fun _ => none
 | f + 1 => bindP (pPrim f) fun e => pPostGo f e
def pPostGo : Nat → Int → PM Int
 | 0, _ => fun _ => none
 | f + 1, e => bindP (mPlace src T) fun a =>
  bindP (mGot tx T [40]) fun b => if b = true then bindP (mGot tx T [41]) fun b => bindP (if b = true then pureP [e] else bindP (pList f [41]) fun ks => pureP (e :: ks)) fun ks => bindP (mNode 23 a [] 0 ks) fun e2 => pPostGo f e2 else
  bindP (mGot tx T [91]) fun b => if b = true then bindP (pExpr f) fun i => bindP (mWant tx src T [93]) fun _ => bindP (mNode 24 a [] 0 [e, i]) fun e2 => pPostGo f e2 else
  bindP (mGot tx T [46]) fun b => if b = true then bindP (mNum src T) fun n => bindP (mNode 25 a [] n [e]) fun e2 => pPostGo f e2 else pureP e
def pList : Nat → List UInt8 → PM (List Int)
 | 0, _ => fun _ => none
 | f + 1, t => bindP (pExpr f) fun e => pListGo f t [e]
def pListGo : Nat → List UInt8 → List Int → PM (List Int)
 | 0, _, _ => fun _ => none
 | f + 1, t, ks => bindP (mLim ks) fun _ => bindP (mGot tx T [44]) fun b => if b = true then bindP (pExpr f) fun e => pListGo f t (ks ++ [e]) else bindP (mWant tx src T t) fun _ => pureP ks
def pPrim : Nat → PM Int
 | 0 => fun _ => none
 | f + 1 => bindP (mPlace src T) fun a => bindP (mKnd T) fun k => if k = 2 then bindP (mNum src T) fun n => mNode 11 a [] n [] else
  if k = 1 then bindP (mName src T) fun nm => mNode 13 a nm 0 [] else
  bindP (mGot tx T [116, 114, 117, 101]) fun b => if b = true then mNode 12 a [] 1 [] else
  bindP (mGot tx T [102, 97, 108, 115, 101]) fun b => if b = true then mNode 12 a [] 0 [] else
  bindP (mGot tx T [40]) fun b => if b = true then bindP (pList f [41]) fun ks => if (ks.length : Int) = 1 then mNode 14 a [] 0 ks else mNode 15 a [] 0 ks else
  bindP (mGot tx T [91]) fun b => if b = true then bindP (pList f [93]) fun ks => mNode 16 a [] 0 ks else
  bindP (mGot tx T [102, 105, 108, 108]) fun b => if b = true then bindP (mWant tx src T [40]) fun _ => bindP (pExpr f) fun e => bindP (mWant tx src T [44]) fun _ => bindP (pExpr f) fun e2 => bindP (mWant tx src T [41]) fun _ => mNode 17 a [] 0 [e, e2] else
  bindP (mGot tx T [108, 101, 110]) fun b => if b = true then bindP (mWant tx src T [40]) fun _ => bindP (pExpr f) fun e => bindP (mWant tx src T [41]) fun _ => mNode 18 a [] 0 [e] else
  bindP (mGot tx T [109, 97, 107, 101]) fun b => if b = true then bindP (pChan f) fun t => mNode 19 a [] 0 [t] else
  bindP (mGot tx T [112, 114, 111, 103]) fun b => if b = true then pProg f a else
  mFail src T
def pProg : Nat → Int → PM Int
 | 0, _ => fun _ => none
 | f + 1, a => bindP (mOpt src T) fun nm => bindP (mWant tx src T [40]) fun _ => pProgGo f a nm []
def pProgGo : Nat → Int → List UInt8 → List Int → PM Int
 | 0, _, _, _ => fun _ => none
 | f + 1, a, nm, ks => bindP (mLim ks) fun _ => bindP (mGot tx T [41]) fun b => if b = true then pRes f 20 a nm ks else
  bindP (if 0 < (ks.length : Int) then mWant tx src T [44] else pureP 0) fun _ => bindP (mPlace src T) fun a2 => bindP (mName src T) fun pn => bindP (mWant tx src T [58]) fun _ => bindP (pTyp f) fun t => bindP (mNode 42 a2 pn 0 [t]) fun p => pProgGo f a nm (ks ++ [p])
end
/-- the declarations of types, then the statements -/
def pTop : Nat → List Int → PM (List Int)
 | 0, _ => fun _ => none
 | f + 1, ks => bindP (mLim ks) fun _ => bindP (mIs tx T [116, 121, 112, 101]) fun b => if b = true then bindP (mWant tx src T [116, 121, 112, 101]) fun a => bindP (mName src T) fun nm => bindP (mWant tx src T [61]) fun _ => bindP (pTyp tx src T f) fun t => bindP (mWant tx src T [59]) fun _ => bindP (mNode 45 a nm 0 [t]) fun d => pTop f (ks ++ [d]) else pureP ks
def pTop2 : Nat → Int → List Int → PM Int
 | 0, _, _ => fun _ => none
 | f + 1, n, ks => bindP (mLim ks) fun _ => fun s => if s.a < T.length then (bindP (pStm tx src T f) fun c => pTop2 f n (ks ++ [c])) s else mNode 46 0 [] n ks s
def pProgram (f : Nat) : PM Int := bindP (pTop tx src T f []) fun ks => pTop2 tx src T f ks.length ks
end
theorem pmD : (∀ {α β : Type} (m : PM α) (k : α → PM β) (s : PS), bindP m k s = match m s with | none => none | some (.error a) => some (.error a) | some (.ok r) => k r.1 r.2) ∧ (∀ {α : Type} (v : α) (s : PS), pureP v s = some (.ok (v, s))) ∧ (∀ (src : List UInt8) (T : List TK) (s : PS), mPlace src T s = some (.ok (plF src T s.a, s))) ∧ (∀ (T : List TK) (s : PS), mKnd T s = some (.ok (knF T s.a, s))) ∧ (∀ {α : Type} (src : List UInt8) (T : List TK) (s : PS), (mFail src T : PM α) s = some (.error (plF src T s.a))) ∧ (∀ (tx : Nat → List UInt8) (T : List TK) (t : List UInt8) (s : PS), mIs tx T t s = some (.ok (isF tx T s.a t, s))) :=
 ⟨fun _ _ _ => rfl, fun _ _ => rfl, fun _ _ _ => rfl, fun _ _ => rfl, fun _ _ _ => rfl, fun _ _ _ _ => rfl⟩
end Go.Proofs.Ytehmhhlhlipbnaa.Vs
