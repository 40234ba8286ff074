/- Functions that mirror the program's. Printed by mir.py. -/
import Derived.Test.YtoceeiamcfdnlaaHd
namespace Go.Proofs.Ytoceeiamcfdnlaa
open Go.RowKit
set_option linter.unusedVariables false

def slices_IndexFunc_api_Cell_api_Cell_c1_l1 (N : Nat) (g1 : (Ce → Option Bool)) : List Ce → Nat → Option (Ctl Int Unit)
  | [], k2 => some (.next ())
  | x8 :: rest5, k2 => ((g1 x8).bind fun r11 => (bif r11 then some (.ret (k2 : Int)) else slices_IndexFunc_api_Cell_api_Cell_c1_l1 N g1 rest5 (k2 + 1)))

def slices_IndexFunc_api_Cell_api_Cell_c1 (N : Nat) (a0 : (List Ce)) (g1 : Ce → Option Bool) : Option Int :=
  ((slices_IndexFunc_api_Cell_api_Cell_c1_l1 N g1 a0 0).bind fun o => match o with | .ret r => some r | .next () => some (-1 : Int))

def cells_where_1 (N : Nat) (a0 : Ce) (b0 : St) : Option Bool :=
  some (eqAs (eSt a0.site) (eSt b0))

def cells_where (N : Nat) (a0 : (List Ce)) (a1 : St) : Option Int :=
  ((slices_IndexFunc_api_Cell_api_Cell_c1 N a0 (fun x0_ => cells_where_1 N x0_ a1)).bind fun r1 => some r1)

def cells_Get_l1 (N : Nat) (a3 : Int) : List Ln → Nat → Option (Ctl Int Unit)
  | [], k13 => some (.next ())
  | x19 :: rest16, k13 => (bif decide (x19.cls = a3) then some (.ret x19.found) else cells_Get_l1 N a3 rest16 (k13 + 1))

def cells_Get (N : Nat) (a0 : (List Ce)) (a1 : St) (a2 : Int) (a3 : Int) : Option Int :=
  ((cells_where N a0 a1).bind fun r1 => (((bif decide (r1 < (0 : Int)) then some (true) else ((nthO a0 r1).bind fun x7 => some ((!decide (x7.epoch = a2))))) : Option Bool).bind fun v3 => (bif v3 then some (-1 : Int) else ((nthO a0 r1).bind fun x10 => ((cells_Get_l1 N a3 x10.lines 0).bind fun o => match o with | .ret r => some r | .next () => some (-1 : Int))))))

def qcref1_Get_l2 (N : Nat) (a2 : Int) (a3 : Int) (x8 : Ce) : List Ln → Nat → Option (Ctl Int Unit)
  | [], k13 => some (.next ())
  | x19 :: rest16, k13 => (((bif decide (x8.epoch = a2) then some (decide (x19.cls = a3)) else some (false)) : Option Bool).bind fun v22 => (bif v22 then some (.ret x19.found) else qcref1_Get_l2 N a2 a3 x8 rest16 (k13 + 1)))

def qcref1_Get_l1 (N : Nat) (a1 : St) (a2 : Int) (a3 : Int) : List Ce → Nat → Option (Ctl Int Unit)
  | [], k2 => some (.next ())
  | x8 :: rest5, k2 => (bif (eqAs (eSt x8.site) (eSt a1)) then ((qcref1_Get_l2 N a2 a3 x8 x8.lines 0).bind fun o => match o with | .ret r => some (.ret r) | .next () => some (.ret (-1 : Int))) else qcref1_Get_l1 N a1 a2 a3 rest5 (k2 + 1))

def qcref1_Get (N : Nat) (a0 : (List Ce)) (a1 : St) (a2 : Int) (a3 : Int) : Option Int :=
  ((qcref1_Get_l1 N a1 a2 a3 a0 0).bind fun o => match o with | .ret r => some r | .next () => some (-1 : Int))

def slices_Clone_Ln (N : Nat) (a0 : List Ln) : Option (List Ln) := bif Nat.ble (a0.length * 16) 140737488355328 then some a0 else none

def cells_Own_l1 (N : Nat) : List Ce → Nat → (List Ce) → Option ((List Ce))
  | [], k2, v3 => some (v3)
  | x11 :: rest8, k2, v3 => ((slices_Clone_Ln N x11.lines).bind fun r14 => (bif Nat.ble ((v3.length + [(⟨x11.site, x11.epoch, x11.many, r14⟩ : Ce)].length) * 72) 140737488355328 then cells_Own_l1 N rest8 (k2 + 1) (v3 ++ [(⟨x11.site, x11.epoch, x11.many, r14⟩ : Ce)]) else none))

def cells_Own (N : Nat) (a0 : (List Ce)) : Option (List Ce) :=
  ((cells_Own_l1 N a0 0 ([] : List Ce)).bind fun v5 => some v5)

def slices_IndexFunc_api_Line_api_Line_c1_l1 (N : Nat) (g1 : (Ln → Option Bool)) : List Ln → Nat → Option (Ctl Int Unit)
  | [], k2 => some (.next ())
  | x8 :: rest5, k2 => ((g1 x8).bind fun r11 => (bif r11 then some (.ret (k2 : Int)) else slices_IndexFunc_api_Line_api_Line_c1_l1 N g1 rest5 (k2 + 1)))

def slices_IndexFunc_api_Line_api_Line_c1 (N : Nat) (a0 : (List Ln)) (g1 : Ln → Option Bool) : Option Int :=
  ((slices_IndexFunc_api_Line_api_Line_c1_l1 N g1 a0 0).bind fun o => match o with | .ret r => some r | .next () => some (-1 : Int))

def slices_ContainsFunc_api_Line_api_Line_c1 (N : Nat) (a0 : (List Ln)) (g1 : Ln → Option Bool) : Option Bool :=
  ((slices_IndexFunc_api_Line_api_Line_c1 N a0 g1).bind fun r1 => some (decide ((0 : Int) ≤ r1)))

def cells_Put_1 (N : Nat) (a0 : Ln) (b0 : Int) : Option Bool :=
  some (decide (a0.cls = b0))

/-- a cell, once something is put into it -/
def freshC (e : Int) (x : Ce) : Ce := if x.epoch = e then x else ⟨x.site, e, false, []⟩
def lineC (c f : Int) (y : Ce) : Ce := if y.many = true ∨ 0 ≤ ixf (fun t : Ln => decide (t.cls = c)) y.lines then y else if (3 : Int) ≤ (y.lines.length : Int) then ⟨y.site, y.epoch, true, []⟩ else ⟨y.site, y.epoch, y.many, y.lines ++ [⟨c, f⟩]⟩
def putC (e c f : Int) (x : Ce) : Ce := lineC c f (freshC e x)
def cells_Put (N : Nat) (a0 : List Ce) (a1 : St) (a2 : Int) (a3 : Int) (a4 : Int) : Option (List Ce) :=
  bif (Nat.ble ((a0.length + 1) * 72) 140737488355328 && a0.all fun t => Nat.ble ((t.lines.length + 1) * 16) 140737488355328) then
    some ((ixd (fun t : Ce => decide (t.site = a1)) ⟨a1, a2, false, []⟩ a0).1.modify (ixd (fun t : Ce => decide (t.site = a1)) ⟨a1, a2, false, []⟩ a0).2 (putC a2 a3 a4)) else none

def qcref1_Put_1_l1 (N : Nat) (b2 : Int) : List Ln → Nat → Bool → Option (Bool)
  | [], k6, v7 => some (v7)
  | x15 :: rest12, k6, v7 => (((bif v7 then some (true) else some (decide (x15.cls = b2))) : Option Bool).bind fun v18 => qcref1_Put_1_l1 N b2 rest12 (k6 + 1) v18)

def qcref1_Put_1 (N : Nat) (a0 : Ce) (b0 : Int) (b1 : St) (b2 : Int) (b3 : Int) (b4 : (List Ce)) (b5 : Bool) : Option ((List Ce) × Bool) :=
  (((bif (!decide (a0.epoch = b0)) then some ((⟨b1, b0, false, ([] : List Ln)⟩ : Ce)) else some (a0)) : Option Ce).bind fun v1 => ((qcref1_Put_1_l1 N b2 v1.lines 0 v1.many).bind fun v9 => (((bif (!v9) then some (decide ((3 : Int) ≤ (v1.lines.length : Int))) else some (false)) : Option Bool).bind fun v22 => (((bif v22 then some ((⟨v1.site, v1.epoch, true, ([] : List Ln)⟩ : Ce)) else (((bif (!v9) then (bif Nat.ble ((([] : List Ln).length + v1.lines.length) * 16) 140737488355328 then (bif Nat.ble (((([] : List Ln) ++ v1.lines).length + [(⟨b2, b3⟩ : Ln)].length) * 16) 140737488355328 then some ((⟨v1.site, v1.epoch, v1.many, ((([] : List Ln) ++ v1.lines) ++ [(⟨b2, b3⟩ : Ln)])⟩ : Ce)) else none) else none) else some (v1)) : Option Ce).bind fun v31 => some (v31))) : Option Ce).bind fun v27 => (bif Nat.ble ((b4.length + [v27].length) * 72) 140737488355328 then some ((b4 ++ [v27]), true) else none)))))

def qcref1_Put_l1 (N : Nat) (a1 : St) (a2 : Int) (a3 : Int) (a4 : Int) : List Ce → Nat → (List Ce) → Bool → Option (((List Ce) × Bool))
  | [], k2, v3, v4 => some ((v3, v4))
  | x14 :: rest11, k2, v3, v4 => (((bif (eqAs (eSt x14.site) (eSt a1)) then some ((!v4)) else some (false)) : Option Bool).bind fun v17 => (((bif v17 then ((qcref1_Put_1 N x14 a2 a1 a3 a4 v3 v4).bind fun r26 => some ((r26.1, r26.2))) else (bif Nat.ble ((v3.length + [x14].length) * 72) 140737488355328 then some (((v3 ++ [x14]), v4)) else none)) : Option ((List Ce) × Bool)).bind fun (v21, v22) => qcref1_Put_l1 N a1 a2 a3 a4 rest11 (k2 + 1) v21 v22))

def qcref1_Put (N : Nat) (a0 : (List Ce)) (a1 : St) (a2 : Int) (a3 : Int) (a4 : Int) : Option (List Ce) :=
  ((qcref1_Put_l1 N a1 a2 a3 a4 a0 0 ([] : List Ce) false).bind fun (v7, v8) => (((bif (!v8) then ((qcref1_Put_1 N (⟨a1, a2, false, []⟩ : Ce) a2 a1 a3 a4 v7 v8).bind fun r33 => some (r33.1)) else some (v7)) : Option (List Ce)).bind fun v29 => some v29))

def qcref1_SameLines_l1 (N : Nat) (a1 : (List Ln)) : List Ln → Nat → Option (Ctl Bool Unit)
  | [], k5 => some (.next ())
  | x11 :: rest8, k5 => ((nthO a1 (k5 : Int)).bind fun x14 => (bif (!(eqAs (eLn x11) (eLn x14))) then some (.ret false) else qcref1_SameLines_l1 N a1 rest8 (k5 + 1)))

def qcref1_SameLines (N : Nat) (a0 : (List Ln)) (a1 : (List Ln)) : Option Bool :=
  (bif (!decide ((a0.length : Int) = (a1.length : Int))) then some false else ((qcref1_SameLines_l1 N a1 a0 0).bind fun o => match o with | .ret r => some r | .next () => some true))

def qcref1_SameCells_l1 (N : Nat) (a1 : (List Ce)) : List Ce → Nat → Option (Ctl Bool Unit)
  | [], k5 => some (.next ())
  | x11 :: rest8, k5 => ((((nthO a1 (k5 : Int)).bind fun x17 => (bif (!(eqAs (eSt x11.site) (eSt x17.site))) then some (true) else ((nthO a1 (k5 : Int)).bind fun x20 => (bif (!decide (x11.epoch = x20.epoch)) then some (true) else ((nthO a1 (k5 : Int)).bind fun x23 => (bif (!decide (x11.many = x23.many)) then some (true) else ((nthO a1 (k5 : Int)).bind fun x26 => ((qcref1_SameLines N x11.lines x26.lines).bind fun r28 => some ((!r28)))))))))) : Option Bool).bind fun v14 => (bif v14 then some (.ret false) else qcref1_SameCells_l1 N a1 rest8 (k5 + 1)))

def qcref1_SameCells (N : Nat) (a0 : (List Ce)) (a1 : (List Ce)) : Option Bool :=
  (bif (!decide ((a0.length : Int) = (a1.length : Int))) then some false else ((qcref1_SameCells_l1 N a1 a0 0).bind fun o => match o with | .ret r => some r | .next () => some true))

def qcref1_Rises_l2 (N : Nat) (x8 : Cl) : List Me → Nat → Option (Ctl Bool Unit)
  | [], k12 => some (.next ())
  | x18 :: rest15, k12 => (((bif decide ((0 : Int) < (k12 : Int)) then ((nthO x8.methods (wr ((k12 : Int) - (1 : Int)))).bind fun x25 => some ((!ltS x25.name x18.name))) else some (false)) : Option Bool).bind fun v21 => (bif v21 then some (.ret false) else qcref1_Rises_l2 N x8 rest15 (k12 + 1)))

def qcref1_Rises_l1 (N : Nat) : List Cl → Nat → Option (Ctl Bool Unit)
  | [], k2 => some (.next ())
  | x8 :: rest5, k2 => ((qcref1_Rises_l2 N x8 x8.methods 0).bind fun o => match o with | .ret r => some (.ret r) | .next () => qcref1_Rises_l1 N rest5 (k2 + 1))

def qcref1_Rises (N : Nat) (a0 : Wd) : Option Bool :=
  ((qcref1_Rises_l1 N a0.classes 0).bind fun o => match o with | .ret r => some r | .next () => some true)

def slices_BinarySearchFunc_api_Method_api_Method_string_l1 (N : Nat) (a0 : (List Me)) (a1 : ByteArray) (g2 : (Me → ByteArray → Option Int)) : Nat → Int → Int → Option (Int)
  | 0, _, _ => none
  | n12 + 1, v3, v4 => (bif decide (v3 < v4) then (bif decide (0 ≤ (wr (v3 + v4))) then (bif decide (InR ((wr (v3 + v4)) / 2)) then ((nthO a0 ((wr (v3 + v4)) / 2)).bind fun x16 => ((g2 x16 a1).bind fun r18 => (((bif decide (r18 < (0 : Int)) then some (((wr (((wr (v3 + v4)) / 2) + (1 : Int))), v4)) else some ((v3, ((wr (v3 + v4)) / 2)))) : Option (Int × Int)).bind fun (v20, v21) => slices_BinarySearchFunc_api_Method_api_Method_string_l1 N a0 a1 g2 n12 v20 v21))) else none) else none) else some (v3))

def slices_BinarySearchFunc_api_Method_api_Method_string (N : Nat) (a0 : (List Me)) (a1 : ByteArray) (g2 : Me → ByteArray → Option Int) : Option (Int × Bool) :=
  ((slices_BinarySearchFunc_api_Method_api_Method_string_l1 N a0 a1 g2 N (0 : Int) (a0.length : Int)).bind fun v7 => (((bif decide (v7 < (a0.length : Int)) then ((nthO a0 v7).bind fun x29 => ((g2 x29 a1).bind fun r31 => some (decide (r31 = (0 : Int))))) else some (false)) : Option Bool).bind fun v25 => some (v7, v25)))

def cmp_isNaN_string (N : Nat) (a0 : ByteArray) : Option Bool :=
  some (!decide (a0 = a0))

def cmp_Compare_string (N : Nat) (a0 : ByteArray) (a1 : ByteArray) : Option Int :=
  ((cmp_isNaN_string N a0).bind fun r1 => ((cmp_isNaN_string N a1).bind fun r3 => (bif r1 then (bif r3 then some (0 : Int) else some (-1 : Int)) else (bif r3 then some (1 : Int) else (bif (ltS a0 a1) then some (-1 : Int) else (bif (!(ltS a0 a1 || decide (a0 = a1))) then some (1 : Int) else some (0 : Int)))))))

def class_order (N : Nat) (a0 : Me) (a1 : ByteArray) : Option Int :=
  ((cmp_Compare_string N a0.name a1).bind fun r1 => some r1)

def class_Find_l1 (N : Nat) (a0 : Wd) (a2 : ByteArray) : Nat → Int → Int → Option (Ctl (Int × Int) Unit)
  | 0, _, _ => none
  | n10 + 1, v2, v3 => (((bif decide ((0 : Int) ≤ v2) then (bif decide (v2 < (a0.classes.length : Int)) then some (decide (v3 ≤ (a0.classes.length : Int))) else some (false)) else some (false)) : Option Bool).bind fun v11 => (bif v11 then ((nthO a0.classes v2).bind fun x19 => ((slices_BinarySearchFunc_api_Method_api_Method_string N x19.methods a2 (fun x0_ x1_ => class_order N x0_ x1_)).bind fun r21 => (bif r21.2 then some (.ret (v2, r21.1)) else ((nthO a0.classes v2).bind fun x24 => class_Find_l1 N a0 a2 n10 x24.super (wr (v3 + (1 : Int))))))) else some (.next ())))

def class_Find (N : Nat) (a0 : Wd) (a1 : Int) (a2 : ByteArray) : Option (Int × Int) :=
  ((class_Find_l1 N a0 a2 N a1 (0 : Int)).bind fun o => match o with | .ret r => some r | .next () => some ((-1 : Int), (-1 : Int)))

def cells_Find (N : Nat) (a0 : (List Ce)) (a1 : Wd) (a2 : St) (a3 : Int) (a4 : ByteArray) : Option ((List Ce) × Int × Int × Bool) :=
  ((cells_Get N a0 a2 a1.epoch a3).bind fun r1 => (((bif decide ((0 : Int) ≤ r1) then some (decide (r1 < (a1.classes.length : Int))) else some (false)) : Option Bool).bind fun v3 => (bif v3 then ((class_Find N a1 r1 a4).bind fun r9 => ((cells_Own N a0).bind fun r11 => some (r11, r9.1, r9.2, true))) else ((class_Find N a1 a3 a4).bind fun r13 => (bif decide (r13.2 < (0 : Int)) then ((cells_Own N a0).bind fun r16 => some (r16, r13.1, r13.2, false)) else ((cells_Put N a0 a2 a1.epoch a3 r13.1).bind fun r18 => some (r18, r13.1, r13.2, false)))))))

def qcref1_Ups_l1 (N : Nat) (a0 : Wd) : Nat → Int → (List Int) → Option ((List Int))
  | 0, _, _ => none
  | n11 + 1, v2, v3 => (((bif decide ((0 : Int) ≤ v2) then (bif decide (v2 < (a0.classes.length : Int)) then some (decide ((v3.length : Int) ≤ (a0.classes.length : Int))) else some (false)) else some (false)) : Option Bool).bind fun v12 => (bif v12 then (bif Nat.ble ((v3.length + [v2].length) * 8) 140737488355328 then ((nthO a0.classes v2).bind fun x22 => qcref1_Ups_l1 N a0 n11 x22.super (v3 ++ [v2])) else none) else some (v3)))

def qcref1_Ups (N : Nat) (a0 : Wd) (a1 : Int) : Option (List Int) :=
  ((qcref1_Ups_l1 N a0 N a1 ([] : List Int)).bind fun v6 => some v6)

def qcref1_Find_l2 (N : Nat) (a2 : ByteArray) (x13 : Int) : List Me → Nat → Option (Ctl (Int × Int) Unit)
  | [], k18 => some (.next ())
  | x24 :: rest21, k18 => (bif decide (x24.name = a2) then some (.ret (x13, (k18 : Int))) else qcref1_Find_l2 N a2 x13 rest21 (k18 + 1))

def qcref1_Find_l1 (N : Nat) (a0 : Wd) (a2 : ByteArray) (r1 : (List Int)) : List Int → Nat → Option (Ctl (Int × Int) Unit)
  | [], k4 => some (.next ())
  | x10 :: rest7, k4 => ((nthO r1 (k4 : Int)).bind fun x13 => ((nthO a0.classes x13).bind fun x15 => ((qcref1_Find_l2 N a2 x13 x15.methods 0).bind fun o => match o with | .ret r => some (.ret r) | .next () => qcref1_Find_l1 N a0 a2 r1 rest7 (k4 + 1))))

def qcref1_Find (N : Nat) (a0 : Wd) (a1 : Int) (a2 : ByteArray) : Option (Int × Int) :=
  ((qcref1_Ups N a0 a1).bind fun r1 => ((qcref1_Find_l1 N a0 a2 r1 r1 0).bind fun o => match o with | .ret r => some r | .next () => some ((-1 : Int), (-1 : Int))))

def qclaw6_CellsTells (N : Nat) (a0 : (List Ce)) (a1 : Wd) (a2 : St) (a3 : Int) (a4 : Int) (a5 : Int) (a6 : ByteArray) : Option Bool :=
  ((((cells_Get N a0 a2 a3 a4).bind fun r4 => ((qcref1_Get N a0 a2 a3 a4).bind fun r6 => (bif (!decide (r4 = r6)) then some (true) else ((cells_Put N a0 a2 a3 a4 a5).bind fun r9 => ((qcref1_Put N a0 a2 a3 a4 a5).bind fun r11 => ((qcref1_SameCells N r9 r11).bind fun r13 => (bif (!r13) then some (true) else ((cells_Own N a0).bind fun r16 => ((qcref1_SameCells N r16 a0).bind fun r18 => some ((!r18))))))))))) : Option Bool).bind fun v1 => (bif v1 then some false else ((qcref1_Rises N a1).bind fun r21 => (bif (!r21) then some true else ((cells_Find N a0 a1 a2 a4 a6).bind fun r24 => ((qcref1_Get N a0 a2 a1.epoch a4).bind fun r26 => (((bif decide ((0 : Int) ≤ r26) then some (decide (r26 < (a1.classes.length : Int))) else some (false)) : Option Bool).bind fun v28 => (bif v28 then ((qcref1_Find N a1 r26 a6).bind fun r34 => (((bif r24.2.2.2 then (bif decide (r24.2.1 = r34.1) then (bif decide (r24.2.2.1 = r34.2) then ((qcref1_SameCells N r24.1 a0).bind fun r42 => some (r42)) else some (false)) else some (false)) else some (false)) : Option Bool).bind fun v36 => some v36)) else ((qcref1_Find N a1 a4 a6).bind fun r44 => (((bif decide ((0 : Int) ≤ r44.2) then ((qcref1_Put N a0 a2 a1.epoch a4 r44.1).bind fun r50 => some (r50)) else some (a0)) : Option (List Ce)).bind fun v46 => (((bif (!r24.2.2.2) then (bif decide (r24.2.1 = r44.1) then (bif decide (r24.2.2.1 = r44.2) then ((qcref1_SameCells N r24.1 v46).bind fun r58 => some (r58)) else some (false)) else some (false)) else some (false)) : Option Bool).bind fun v52 => some v52)))))))))))

def qclaw6_alive (N : Nat) : Option Bool :=
  ((cells_Put N [] (⟨(4 : Int), (⟨#[109]⟩ : ByteArray), (2 : Int)⟩ : St) (3 : Int) (5 : Int) (4 : Int)).bind fun r1 => ((qcref1_New N).bind fun r3 => ((cells_Find N [] r3 (⟨(4 : Int), (⟨#[109]⟩ : ByteArray), (2 : Int)⟩ : St) (3 : Int) (⟨#[43]⟩ : ByteArray)).bind fun r5 => (((bif decide ((r1.length : Int) = (1 : Int)) then ((cells_Get N r1 (⟨(4 : Int), (⟨#[109]⟩ : ByteArray), (2 : Int)⟩ : St) (3 : Int) (5 : Int)).bind fun r12 => (bif decide (r12 = (4 : Int)) then ((cells_Get N r1 (⟨(4 : Int), (⟨#[109]⟩ : ByteArray), (2 : Int)⟩ : St) (2 : Int) (5 : Int)).bind fun r15 => (bif decide (r15 = (-1 : Int)) then ((cells_Own N r1).bind fun r18 => (bif decide ((r18.length : Int) = (1 : Int)) then (bif decide ((r5.1.length : Int) = (1 : Int)) then (bif decide (r5.2.1 = (3 : Int)) then (bif decide (r5.2.2.1 = (1 : Int)) then some ((!r5.2.2.2)) else some (false)) else some (false)) else some (false)) else some (false))) else some (false))) else some (false))) else some (false)) : Option Bool).bind fun v7 => some v7))))

def qcref1_Name_l1 (N : Nat) (a0 : ByteArray) : Nat → Nat → Option (Ctl Bool Unit)
  | 0, k2 => some (.next ())
  | n7 + 1, k2 => ((((byO a0 (k2 : Int)).bind fun u14 => (bif decide ((u14.toNat : Int) < (33 : Int)) then some (true) else ((byO a0 (k2 : Int)).bind fun u17 => some (decide ((126 : Int) < (u17.toNat : Int)))))) : Option Bool).bind fun v11 => (bif v11 then some (.ret false) else qcref1_Name_l1 N a0 n7 (k2 + 1)))

def qcref1_Name (N : Nat) (a0 : ByteArray) : Option Bool :=
  ((qcref1_Name_l1 N a0 (((a0.size : Int) - ((0 : Nat) : Int)).toNat) 0).bind fun o => match o with | .ret r => some r | .next () => (((bif decide ((0 : Int) < (a0.size : Int)) then some (decide ((a0.size : Int) ≤ (12 : Int))) else some (false)) : Option Bool).bind fun v20 => some v20))

def qcref1_Slots_l1 (N : Nat) (a0 : Wd) (r1 : (List Int)) : List Int → Nat → Int → Option (Int)
  | [], k4, v5 => some (v5)
  | x13 :: rest10, k4, v5 => ((nthO r1 (k4 : Int)).bind fun x16 => ((nthO a0.classes x16).bind fun x18 => qcref1_Slots_l1 N a0 r1 rest10 (k4 + 1) (wr (v5 + x18.slots))))

def qcref1_Slots (N : Nat) (a0 : Wd) (a1 : Int) : Option Int :=
  ((qcref1_Ups N a0 a1).bind fun r1 => ((qcref1_Slots_l1 N a0 r1 r1 0 (0 : Int)).bind fun v7 => some v7))

def qcref1_Numbers (N : Nat) (a0 : Wd) (a1 : Int) (a2 : Me) (a3 : Ins) : Option Int :=
  (((bif decide (a3.op = (1 : Int)) then some (decide (a3.op = (1 : Int))) else (((bif decide (a3.op = (6 : Int)) then some (decide (a3.op = (6 : Int))) else (((bif decide (a3.op = (7 : Int)) then some (decide (a3.op = (7 : Int))) else (((bif decide (a3.op = (8 : Int)) then some (decide (a3.op = (8 : Int))) else (((bif decide (a3.op = (9 : Int)) then some (decide (a3.op = (9 : Int))) else (((bif decide (a3.op = (10 : Int)) then some (decide (a3.op = (10 : Int))) else some (decide (a3.op = (17 : Int)))) : Option Bool).bind fun v21 => some (v21))) : Option Bool).bind fun v17 => some (v17))) : Option Bool).bind fun v13 => some (v13))) : Option Bool).bind fun v9 => some (v9))) : Option Bool).bind fun v5 => some (v5))) : Option Bool).bind fun v1 => (((bif v1 then some (.next ((0 : Int), (0 : Int))) else (((bif decide (a3.op = (2 : Int)) then some (.next ((0 : Int), (wr (a2.args - (1 : Int))))) else (((bif decide (a3.op = (3 : Int)) then some (decide (a3.op = (3 : Int))) else some (decide (a3.op = (11 : Int)))) : Option Bool).bind fun v35 => (((bif v35 then some (.next ((0 : Int), (wr (a2.temps - (1 : Int))))) else (((bif decide (a3.op = (4 : Int)) then some (decide (a3.op = (4 : Int))) else some (decide (a3.op = (12 : Int)))) : Option Bool).bind fun v44 => (((bif v44 then ((qcref1_Slots N a0 a1).bind fun r53 => some (.next ((0 : Int), (wr (r53 - (1 : Int)))))) else (((bif decide (a3.op = (5 : Int)) then some (.next ((-1073741824 : Int), (1073741824 : Int))) else (((bif decide (a3.op = (13 : Int)) then (((bif decide ((0 : Int) < a3.a) then some (decide (a3.a < (4 : Int))) else some (false)) : Option Bool).bind fun v65 => (bif v65 then some (.ret (3 : Int)) else some (.next (wr ((a0.classes.length : Int) - (1 : Int)))))) else (((bif decide (a3.op = (14 : Int)) then some (.next (4 : Int)) else (((bif decide (a3.op = (15 : Int)) then some (decide (a3.op = (15 : Int))) else some (decide (a3.op = (16 : Int)))) : Option Bool).bind fun v74 => (bif v74 then some (.next (wr ((a2.code.length : Int) - (1 : Int)))) else some (.ret (1 : Int))))) : Option (Ctl Int Int)).bind fun o => match o with | .ret r => some (.ret r) | .next v70 => some (.next v70))) : Option (Ctl Int Int)).bind fun o => match o with | .ret r => some (.ret r) | .next v60 => some (.next ((0 : Int), v60)))) : Option (Ctl Int (Int × Int))).bind fun o => match o with | .ret r => some (.ret r) | .next (v55, v56) => some (.next (v55, v56)))) : Option (Ctl Int (Int × Int))).bind fun o => match o with | .ret r => some (.ret r) | .next (v48, v49) => some (.next (v48, v49))))) : Option (Ctl Int (Int × Int))).bind fun o => match o with | .ret r => some (.ret r) | .next (v39, v40) => some (.next (v39, v40))))) : Option (Ctl Int (Int × Int))).bind fun o => match o with | .ret r => some (.ret r) | .next (v30, v31) => some (.next (v30, v31)))) : Option (Ctl Int (Int × Int))).bind fun o => match o with | .ret r => some r | .next (v25, v26) => (((bif decide (a3.a < v25) then some (true) else some (decide (v26 < a3.a))) : Option Bool).bind fun v80 => (bif v80 then some (3 : Int) else (((bif decide (a3.op = (14 : Int)) then ((qcref1_Name N a3.name).bind fun r89 => (bif (!r89) then some (true) else (bif (!decide (a3.op = (14 : Int))) then (bif (!decide (a3.name = (⟨#[]⟩ : ByteArray))) then some (true) else (bif (!decide (a3.b = (0 : Int))) then some (true) else some ((!decide (a3.c = (0 : Int)))))) else (bif (!decide (a3.b = (0 : Int))) then some (true) else some ((!decide (a3.c = (0 : Int)))))))) else (bif (!decide (a3.op = (14 : Int))) then (bif (!decide (a3.name = (⟨#[]⟩ : ByteArray))) then some (true) else (bif (!decide (a3.b = (0 : Int))) then some (true) else some ((!decide (a3.c = (0 : Int)))))) else (bif (!decide (a3.b = (0 : Int))) then some (true) else some ((!decide (a3.c = (0 : Int))))))) : Option Bool).bind fun v85 => (bif v85 then some (2 : Int) else some (0 : Int)))))))

def qcref1_Next (N : Nat) (a0 : Ins) (a1 : Int) : Option (Int × Int × (List Int)) :=
  (((bif decide (a0.op = (9 : Int)) then some (decide (a0.op = (9 : Int))) else (((bif decide (a0.op = (11 : Int)) then some (decide (a0.op = (11 : Int))) else some (decide (a0.op = (12 : Int)))) : Option Bool).bind fun v5 => some (v5))) : Option Bool).bind fun v1 => (bif v1 then some ((1 : Int), (-1 : Int), [(wr (a1 + (1 : Int)))]) else (bif decide (a0.op = (10 : Int)) then some ((1 : Int), (1 : Int), [(wr (a1 + (1 : Int)))]) else (bif decide (a0.op = (14 : Int)) then (bif decide (InR (-a0.a)) then some ((wr (a0.a + (1 : Int))), (-a0.a), [(wr (a1 + (1 : Int)))]) else none) else (bif decide (a0.op = (15 : Int)) then some ((0 : Int), (0 : Int), [a0.a]) else (bif decide (a0.op = (16 : Int)) then some ((1 : Int), (-1 : Int), [(wr (a1 + (1 : Int))), a0.a]) else (bif decide (a0.op = (17 : Int)) then some ((1 : Int), (-1 : Int), ([] : List Int)) else some ((0 : Int), (1 : Int), [(wr (a1 + (1 : Int)))]))))))))

def qcref1_Heights_l1 (N : Nat) : Nat → Nat → (List Int) → Option ((List Int))
  | 0, k4, v5 => some (v5)
  | n12 + 1, k4, v5 => ((nthO v5 (k4 : Int)).bind fun x16 => qcref1_Heights_l1 N n12 (k4 + 1) (v5.set ((k4 : Int).toNat) (-1 : Int)))

def qcref1_Heights_l3 (N : Nat) (x42 : Int) (r61 : (Int × Int × (List Int))) : List Int → Nat → (List Int) → (List Int) → Option (((List Int) × (List Int)))
  | [], k73, v74, v75 => some ((v74, v75))
  | x85 :: rest82, k73, v74, v75 => ((nthO r61.2.2 (k73 : Int)).bind fun x88 => (bif Nat.ble ((v74.length + [x88].length) * 8) 140737488355328 then (bif Nat.ble ((v75.length + [(wr (x42 + r61.2.1))].length) * 8) 140737488355328 then qcref1_Heights_l3 N x42 r61 rest82 (k73 + 1) (v74 ++ [x88]) (v75 ++ [(wr (x42 + r61.2.1))]) else none) else none))

def qcref1_Heights_l2 (N : Nat) (a0 : Me) : Nat → (List Int) → (List Int) → (List Int) → Int → Option (Ctl ((List Int) × TFault) (List Int))
  | 0, _, _, _, _ => none
  | n32 + 1, v19, v20, v21, v22 => (bif decide (v22 < (v20.length : Int)) then ((((nthO v20 v22).bind fun x40 => ((nthO v21 v22).bind fun x42 => (((bif decide ((a0.code.length : Int) ≤ x40) then some (true) else some (decide (x40 < (0 : Int)))) : Option Bool).bind fun v44 => (bif v44 then some (.ret (([] : List Int), (⟨(9 : Int), (a0.code.length : Int)⟩ : TFault))) else ((nthO v19 x40).bind fun x51 => (bif decide ((0 : Int) ≤ x51) then ((nthO v19 x40).bind fun x54 => (bif (!decide (x54 = x42)) then some (.ret (([] : List Int), (⟨(8 : Int), x40⟩ : TFault))) else some (.next (v19, v20, v21)))) else ((nthO v19 x40).bind fun x57 => ((nthO a0.code x40).bind fun x59 => ((qcref1_Next N x59 x40).bind fun r61 => (((bif decide (x42 < r61.1) then some (true) else ((nthO a0.code x40).bind fun x67 => (bif decide (x67.op = (17 : Int)) then some ((!decide (x42 = (1 : Int)))) else some (false)))) : Option Bool).bind fun v63 => (bif v63 then some (.ret (([] : List Int), (⟨(8 : Int), x40⟩ : TFault))) else (bif decide ((12 : Int) < (wr (x42 + r61.2.1))) then some (.ret (([] : List Int), (⟨(4 : Int), x40⟩ : TFault))) else ((qcref1_Heights_l3 N x42 r61 r61.2.2 0 v20 v21).bind fun (v78, v79) => some (.next ((v19.set x40.toNat x42), v78, v79))))))))))))))) : Option (Ctl ((List Int) × TFault) ((List Int) × (List Int) × (List Int)))).bind fun o => match o with | .ret r => some (.ret r) | .next (v35, v36, v37) => qcref1_Heights_l2 N a0 n32 v35 v36 v37 (wr (v22 + (1 : Int)))) else some (.next v19))

def qcref1_Heights (N : Nat) (a0 : Me) : Option ((List Int) × TFault) :=
  (bif (decide (0 ≤ (a0.code.length : Int)) && decide ((a0.code.length : Int) ≤ 140737488355328) && decide ((a0.code.length : Int) * 8 ≤ 140737488355328)) then ((qcref1_Heights_l1 N ((((List.replicate (a0.code.length : Int).toNat (0 : Int)).length : Int) - ((0 : Nat) : Int)).toNat) 0 (List.replicate (a0.code.length : Int).toNat (0 : Int))).bind fun v7 => ((qcref1_Heights_l2 N a0 N v7 [(0 : Int)] [(0 : Int)] (0 : Int)).bind fun o => match o with | .ret r => some r | .next v27 => some (v27, (⟨(0 : Int), (0 : Int)⟩ : TFault)))) else none)

def qcref1_Check_l1 (N : Nat) (a0 : Wd) (a1 : Int) (a2 : Me) : List Ins → Nat → Option (Ctl TFault Unit)
  | [], k26 => some (.next ())
  | x32 :: rest29, k26 => ((qcref1_Numbers N a0 a1 a2 x32).bind fun r35 => (bif (!decide (r35 = (0 : Int))) then some (.ret (⟨r35, (k26 : Int)⟩ : TFault)) else qcref1_Check_l1 N a0 a1 a2 rest29 (k26 + 1)))

def qcref1_Check (N : Nat) (a0 : Wd) (a1 : Int) (a2 : Me) : Option TFault :=
  (((bif decide (a1 < (0 : Int)) then some (true) else some (decide ((a0.classes.length : Int) ≤ a1))) : Option Bool).bind fun v1 => (bif v1 then some (⟨(6 : Int), (0 : Int)⟩ : TFault) else ((qcref1_Name N a2.name).bind fun r7 => (bif (!r7) then some (⟨(7 : Int), (0 : Int)⟩ : TFault) else (((bif decide (a2.args < (0 : Int)) then some (true) else (bif decide ((4 : Int) < a2.args) then some (true) else (bif decide (a2.temps < (0 : Int)) then some (true) else some (decide ((6 : Int) < a2.temps))))) : Option Bool).bind fun v10 => (bif v10 then some (⟨(3 : Int), (0 : Int)⟩ : TFault) else (bif (!decide (a2.prim = (0 : Int))) then some (⟨(1 : Int), (0 : Int)⟩ : TFault) else (((bif decide ((a2.code.length : Int) = (0 : Int)) then some (true) else some (decide ((60 : Int) < (a2.code.length : Int)))) : Option Bool).bind fun v18 => (bif v18 then some (⟨(5 : Int), (0 : Int)⟩ : TFault) else ((qcref1_Check_l1 N a0 a1 a2 a2.code 0).bind fun o => match o with | .ret r => some r | .next () => ((qcref1_Heights N a2).bind fun r38 => some r38.2)))))))))))

def qcref1_Wrong (N : Nat) (a0 : V) (a1 : Int) : Option Int :=
  (((bif decide (a0.k < (0 : Int)) then some (true) else some (decide ((4 : Int) < a0.k))) : Option Bool).bind fun v1 => (bif v1 then some (1 : Int) else (((bif decide (a0.k < (3 : Int)) then some ((!decide (a0.n = (0 : Int)))) else some (false)) : Option Bool).bind fun v6 => (bif v6 then some (2 : Int) else (((bif decide (a0.k = (3 : Int)) then (bif decide (a0.n < (-1073741824 : Int)) then some (true) else some (decide ((1073741824 : Int) < a0.n))) else some (false)) : Option Bool).bind fun v11 => (bif v11 then some (3 : Int) else (((bif decide (a0.k = (4 : Int)) then (bif decide (a0.n < (0 : Int)) then some (true) else some (decide (a1 ≤ a0.n))) else some (false)) : Option Bool).bind fun v17 => (bif v17 then some (6 : Int) else some (0 : Int)))))))))

def qcref1_Right_l2 (N : Nat) (x24 : Cl) : List Cl → Nat → Option (Ctl Int Unit)
  | [], k39 => some (.next ())
  | x45 :: rest42, k39 => (bif decide (x45.name = x24.name) then some (.ret (7 : Int)) else qcref1_Right_l2 N x24 rest42 (k39 + 1))

def qcref1_Right_l1 (N : Nat) (a0 : Wd) (r1 : Wd) : List Cl → Nat → Option (Ctl Int Unit)
  | [], k18 => some (.next ())
  | x24 :: rest21, k18 => ((((qcref1_Name N x24.name).bind fun r30 => (bif (!r30) then some (true) else (bif decide ((k18 : Int) < (4 : Int)) then ((nthO r1.classes (k18 : Int)).bind fun x34 => some ((!decide (x24.name = x34.name)))) else some (false)))) : Option Bool).bind fun v27 => (bif v27 then some (.ret (7 : Int)) else (bif (decide (0 ≤ (k18 : Int)) && decide ((k18 : Int) ≤ (a0.classes.length : Int))) then ((qcref1_Right_l2 N x24 (a0.classes.take (k18 : Int).toNat) 0).bind fun o => match o with | .ret r => some (.ret r) | .next () => (((bif decide ((k18 : Int) < (4 : Int)) then ((nthO r1.classes (k18 : Int)).bind fun x53 => (bif (!decide (x24.super = x53.super)) then some (.ret (3 : Int)) else some (.next (0 : Int)))) else (((bif decide (x24.super < (0 : Int)) then some (true) else (bif decide ((k18 : Int) ≤ x24.super) then some (true) else (bif decide ((0 : Int) < x24.super) then some (decide (x24.super < (4 : Int))) else some (false)))) : Option Bool).bind fun v56 => (bif v56 then some (.ret (3 : Int)) else some (.next (6 : Int))))) : Option (Ctl Int Int)).bind fun o => match o with | .ret r => some (.ret r) | .next v49 => (((bif decide (x24.slots < (0 : Int)) then some (true) else some (decide (v49 < x24.slots))) : Option Bool).bind fun v63 => (bif v63 then some (.ret (3 : Int)) else qcref1_Right_l1 N a0 r1 rest21 (k18 + 1))))) else none)))

def qcref1_Right_l5 (N : Nat) (k69 : Nat) (x90 : Me) : List Me → Nat → Bool → Option (Bool)
  | [], k103, v104 => some (v104)
  | x112 :: rest109, k103, v104 => (((bif v104 then some (true) else (bif decide ((k69 : Int) = (3 : Int)) then (bif decide (x112.name = x90.name) then (bif decide (x112.prim = x90.prim) then (bif decide (x90.args = (1 : Int)) then (bif decide (x90.temps = (0 : Int)) then some (decide ((x90.code.length : Int) = (0 : Int))) else some (false)) else some (false)) else some (false)) else some (false)) else some (false))) : Option Bool).bind fun v115 => qcref1_Right_l5 N k69 x90 rest109 (k103 + 1) v115)

def qcref1_Right_l4 (N : Nat) (a0 : Wd) (r1 : Wd) (k69 : Nat) (x75 : Cl) : List Me → Nat → Option (Ctl Int Unit)
  | [], k84 => some (.next ())
  | x90 :: rest87, k84 => (((bif decide ((0 : Int) < (k84 : Int)) then ((nthO x75.methods (wr ((k84 : Int) - (1 : Int)))).bind fun x97 => some ((!ltS x97.name x90.name))) else some (false)) : Option Bool).bind fun v93 => (bif v93 then some (.ret (7 : Int)) else ((nthO r1.classes (3 : Int)).bind fun x100 => ((qcref1_Right_l5 N k69 x90 x100.methods 0 false).bind fun v106 => ((qcref1_Check N a0 (k69 : Int) x90).bind fun r125 => (((bif (!v106) then some ((!decide (r125.err = (0 : Int)))) else some (false)) : Option Bool).bind fun v127 => (bif v127 then some (.ret r125.err) else qcref1_Right_l4 N a0 r1 k69 x75 rest87 (k84 + 1))))))))

def qcref1_Right_l3 (N : Nat) (a0 : Wd) (r1 : Wd) : List Cl → Nat → Option (Ctl Int Unit)
  | [], k69 => some (.next ())
  | x75 :: rest72, k69 => ((qcref1_Slots N a0 (k69 : Int)).bind fun r78 => (bif decide ((6 : Int) < r78) then some (.ret (3 : Int)) else (bif decide ((8 : Int) < (x75.methods.length : Int)) then some (.ret (5 : Int)) else ((qcref1_Right_l4 N a0 r1 k69 x75 x75.methods 0).bind fun o => match o with | .ret r => some (.ret r) | .next () => qcref1_Right_l3 N a0 r1 rest72 (k69 + 1)))))

def qcref1_Right_l7 (N : Nat) (a0 : Wd) : List V → Nat → Option (Ctl Int Unit)
  | [], k160 => some (.next ())
  | x166 :: rest163, k160 => ((qcref1_Wrong N x166 (a0.heap.length : Int)).bind fun r170 => (bif (!decide (r170 = (0 : Int))) then some (.ret r170) else qcref1_Right_l7 N a0 rest163 (k160 + 1)))

def qcref1_Right_l6 (N : Nat) (a0 : Wd) : List Ob → Nat → Option (Ctl Int Unit)
  | [], k133 => some (.next ())
  | x139 :: rest136, k133 => (((bif decide (x139.cls < (0 : Int)) then some (true) else (bif decide ((0 : Int) < x139.cls) then (bif decide (x139.cls < (4 : Int)) then some (true) else (bif decide ((a0.classes.length : Int) ≤ x139.cls) then some (true) else ((qcref1_Slots N a0 x139.cls).bind fun r151 => some ((!decide ((x139.slots.length : Int) = r151)))))) else (bif decide ((a0.classes.length : Int) ≤ x139.cls) then some (true) else ((qcref1_Slots N a0 x139.cls).bind fun r156 => some ((!decide ((x139.slots.length : Int) = r156))))))) : Option Bool).bind fun v142 => (bif v142 then some (.ret (8 : Int)) else ((qcref1_Right_l7 N a0 x139.slots 0).bind fun o => match o with | .ret r => some (.ret r) | .next () => qcref1_Right_l6 N a0 rest136 (k133 + 1))))

def qcref1_Right (N : Nat) (a0 : Wd) : Option Int :=
  ((qcref1_New N).bind fun r1 => (((bif decide ((a0.classes.length : Int) < (4 : Int)) then some (true) else (bif decide ((12 : Int) < (a0.classes.length : Int)) then some (true) else some (decide ((60 : Int) < (a0.heap.length : Int))))) : Option Bool).bind fun v3 => (bif v3 then some (5 : Int) else (((bif decide (a0.epoch < (0 : Int)) then some (true) else some (decide ((1073741824 : Int) < a0.epoch))) : Option Bool).bind fun v12 => (bif v12 then some (3 : Int) else ((qcref1_Right_l1 N a0 r1 a0.classes 0).bind fun o => match o with | .ret r => some r | .next () => ((qcref1_Right_l3 N a0 r1 a0.classes 0).bind fun o => match o with | .ret r => some r | .next () => ((qcref1_Right_l6 N a0 a0.heap 0).bind fun o => match o with | .ret r => some r | .next () => some (0 : Int)))))))))

def qclaw6_CellsTrue_l1 (N : Nat) (a0 : Wd) (a2 : (List Int)) (a3 : ByteArray) : List St → Nat → (List Ce) → Option (Ctl Bool Unit)
  | [], k8, v9 => some (.next ())
  | x16 :: rest13, k8, v9 => (bif decide ((a2.length : Int) ≤ (k8 : Int)) then some (.next ()) else ((nthO a2 (k8 : Int)).bind fun x21 => ((cells_Find N v9 a0 x16 x21 a3).bind fun r23 => ((nthO a2 (k8 : Int)).bind fun x25 => ((qcref1_Find N a0 x25 a3).bind fun r27 => (((bif (!decide (r23.2.1 = r27.1)) then some (true) else some ((!decide (r23.2.2.1 = r27.2)))) : Option Bool).bind fun v29 => (bif v29 then some (.ret false) else qclaw6_CellsTrue_l1 N a0 a2 a3 rest13 (k8 + 1) r23.1)))))))

def qclaw6_CellsTrue (N : Nat) (a0 : Wd) (a1 : (List St)) (a2 : (List Int)) (a3 : ByteArray) : Option Bool :=
  ((qclaw6_alive N).bind fun r1 => (bif (!r1) then some false else ((qcref1_Right N a0).bind fun r4 => (bif (!decide (r4 = (0 : Int))) then some true else ((qclaw6_CellsTrue_l1 N a0 a2 a3 a1 0 ([] : List Ce)).bind fun o => match o with | .ret r => some r | .next () => some true)))))

def qclaw6_CellsOld_l1 (N : Nat) (a0 : St) (a1 : Int) : List Int → Nat → (List Ce) → Option ((List Ce))
  | [], k6, v7 => some (v7)
  | x15 :: rest12, k6, v7 => ((cells_Put N v7 a0 a1 x15 (1 : Int)).bind fun r18 => qclaw6_CellsOld_l1 N a0 a1 rest12 (k6 + 1) r18)

def qclaw6_CellsOld_l2 (N : Nat) (a0 : St) (a3 : Int) (v9 : (List Ce)) : List Int → Nat → Option (Ctl Bool Unit)
  | [], k21 => some (.next ())
  | x27 :: rest24, k21 => ((cells_Get N v9 a0 a3 x27).bind fun r30 => (bif (!decide (r30 = (-1 : Int))) then some (.ret false) else qclaw6_CellsOld_l2 N a0 a3 v9 rest24 (k21 + 1)))

def qclaw6_CellsOld_l3 (N : Nat) (a0 : St) (a1 : Int) (a2 : (List Int)) (a3 : Int) (r37 : (List Ce)) : List Int → Nat → Option (Ctl Bool Unit)
  | [], k40 => some (.next ())
  | x46 :: rest43, k40 => ((nthO a2 (0 : Int)).bind fun x49 => (((bif decide (x46 = x49) then some ((2 : Int)) else some ((-1 : Int))) : Option Int).bind fun v51 => ((((cells_Get N r37 a0 a3 x46).bind fun r58 => (bif (!decide (r58 = v51)) then some (true) else ((cells_Get N r37 a0 a1 x46).bind fun r61 => some ((!decide (r61 = (-1 : Int))))))) : Option Bool).bind fun v55 => (bif v55 then some (.ret false) else qclaw6_CellsOld_l3 N a0 a1 a2 a3 r37 rest43 (k40 + 1)))))

def qclaw6_CellsOld (N : Nat) (a0 : St) (a1 : Int) (a2 : (List Int)) (a3 : Int) : Option Bool :=
  ((qclaw6_alive N).bind fun r1 => (bif (!r1) then some false else (bif decide (a3 = a1) then some true else ((qclaw6_CellsOld_l1 N a0 a1 a2 0 ([] : List Ce)).bind fun v9 => ((qclaw6_CellsOld_l2 N a0 a3 v9 a2 0).bind fun o => match o with | .ret r => some r | .next () => (bif decide ((a2.length : Int) = (0 : Int)) then some true else ((nthO a2 (0 : Int)).bind fun x35 => ((cells_Put N v9 a0 a3 x35 (2 : Int)).bind fun r37 => ((qclaw6_CellsOld_l3 N a0 a1 a2 a3 r37 a2 0).bind fun o => match o with | .ret r => some r | .next () => some (decide ((r37.length : Int) = (1 : Int))))))))))))

def inline_writer_callee (N : Nat) (a0 : TWriter) (a1 : Int) (a2 : ByteArray) : Option ((Option Me) × TWriter) :=
  ((class_Find N a0.w a1 a2).bind fun r1 => (bif decide (r1.2 < (0 : Int)) then some (none, (⟨a0.w, a0.m, a0.out, a0.temps, a0.at_, a0.fix⟩ : TWriter)) else ((nthO a0.w.classes r1.1).bind fun x4 => ((nthO x4.methods r1.2).bind fun x6 => some ((some x6), (⟨a0.w, a0.m, a0.out, a0.temps, a0.at_, a0.fix⟩ : TWriter))))))

def slices_IndexFunc_api_Instr_api_Instr_l1 (N : Nat) (g1 : (Ins → Option Bool)) : List Ins → Nat → Option (Ctl Int Unit)
  | [], k2 => some (.next ())
  | x8 :: rest5, k2 => ((g1 x8).bind fun r11 => (bif r11 then some (.ret (k2 : Int)) else slices_IndexFunc_api_Instr_api_Instr_l1 N g1 rest5 (k2 + 1)))

def slices_IndexFunc_api_Instr_api_Instr (N : Nat) (a0 : (List Ins)) (g1 : Ins → Option Bool) : Option Int :=
  ((slices_IndexFunc_api_Instr_api_Instr_l1 N g1 a0 0).bind fun o => match o with | .ret r => some r | .next () => some (-1 : Int))

def slices_ContainsFunc_api_Instr_api_Instr (N : Nat) (a0 : (List Ins)) (g1 : Ins → Option Bool) : Option Bool :=
  ((slices_IndexFunc_api_Instr_api_Instr N a0 g1).bind fun r1 => some (decide ((0 : Int) ≤ r1)))

def choose_Leaf_1 (N : Nat) (a0 : Ins) : Option Bool :=
  (((bif decide (a0.op = (14 : Int)) then some (true) else some (decide (a0.op = (13 : Int)))) : Option Bool).bind fun v1 => some v1)

def choose_Leaf (N : Nat) (a0 : Me) : Option Bool :=
  (((bif decide (a0.prim = (0 : Int)) then ((slices_ContainsFunc_api_Instr_api_Instr N a0.code (fun x0_ => choose_Leaf_1 N x0_)).bind fun r5 => some ((!r5))) else some (false)) : Option Bool).bind fun v1 => some v1)

def inline_size (N : Nat) (a0 : Me) : Option Int :=
  some (wr ((wr ((wr ((3 : Int) + a0.args)) + (wr ((2 : Int) * a0.temps)))) + (a0.code.length : Int)))

def inline_writer_put (N : Nat) (a0 : TWriter) (a1 : Int) (a2 : Int) (a3 : Int) (a4 : Int) : Option TWriter :=
  (bif Nat.ble ((a0.out.length + [(⟨a1, a2, a3, a4, ByteArray.empty⟩ : Ins)].length) * 48) 140737488355328 then some (⟨a0.w, a0.m, (a0.out ++ [(⟨a1, a2, a3, a4, ByteArray.empty⟩ : Ins)]), a0.temps, a0.at_, a0.fix⟩ : TWriter) else none)

def inline_writer_send_l1 (N : Nat) (a0 : TWriter) : Nat → Wd → Me → (List Ins) → Int → (List Int) → (List Int) → Int → Option ((Wd × Me × (List Ins) × Int × (List Int) × (List Int)))
  | 0, _, _, _, _, _, _, _ => none
  | n30 + 1, v6, v7, v8, v9, v10, v11, v12 => (bif decide ((0 : Int) ≤ v12) then ((inline_writer_put N (⟨v6, v7, v8, v9, v10, v11⟩ : TWriter) (11 : Int) (wr (a0.temps + v12)) (0 : Int) (0 : Int)).bind fun r32 => inline_writer_send_l1 N a0 n30 r32.w r32.m r32.out r32.temps r32.at_ r32.fix (wr (v12 - (1 : Int)))) else some ((v6, v7, v8, v9, v10, v11)))

def inline_writer_send_l2 (N : Nat) (a0 : TWriter) (a4 : Me) : Nat → Nat → Wd → Me → (List Ins) → Int → (List Int) → (List Int) → Option ((Wd × Me × (List Ins) × Int × (List Int) × (List Int)))
  | 0, k34, v35, v36, v37, v38, v39, v40 => some ((v35, v36, v37, v38, v39, v40))
  | n57 + 1, k34, v35, v36, v37, v38, v39, v40 => ((inline_writer_put N (⟨v35, v36, v37, v38, v39, v40⟩ : TWriter) (6 : Int) (0 : Int) (0 : Int) (0 : Int)).bind fun r61 => ((inline_writer_put N (⟨r61.w, r61.m, r61.out, r61.temps, r61.at_, r61.fix⟩ : TWriter) (11 : Int) (wr ((wr ((wr (a0.temps + (1 : Int))) + a4.args)) + (k34 : Int))) (0 : Int) (0 : Int)).bind fun r63 => inline_writer_send_l2 N a0 a4 n57 (k34 + 1) r63.w r63.m r63.out r63.temps r63.at_ r63.fix))

def inline_writer_send_l3 (N : Nat) (a0 : TWriter) (a4 : Me) (v49 : (List Ins)) : List Ins → Nat → Wd → Me → (List Ins) → Int → (List Int) → (List Int) → Option ((Wd × Me × (List Ins) × Int × (List Int) × (List Int)))
  | [], k67, v68, v69, v70, v71, v72, v73 => some ((v68, v69, v70, v71, v72, v73))
  | x91 :: rest88, k67, v68, v69, v70, v71, v72, v73 => (((bif decide (x91.op = (1 : Int)) then ((inline_writer_put N (⟨v68, v69, v70, v71, v72, v73⟩ : TWriter) (3 : Int) a0.temps (0 : Int) (0 : Int)).bind fun r103 => some ((r103.w, r103.m, r103.out, r103.temps, r103.at_, r103.fix))) else (((bif decide (x91.op = (2 : Int)) then ((inline_writer_put N (⟨v68, v69, v70, v71, v72, v73⟩ : TWriter) (3 : Int) (wr ((wr (a0.temps + (1 : Int))) + x91.a)) (0 : Int) (0 : Int)).bind fun r114 => some ((r114.w, r114.m, r114.out, r114.temps, r114.at_, r114.fix))) else (((bif decide (x91.op = (3 : Int)) then some (decide (x91.op = (3 : Int))) else some (decide (x91.op = (11 : Int)))) : Option Bool).bind fun v116 => (((bif v116 then ((inline_writer_put N (⟨v68, v69, v70, v71, v72, v73⟩ : TWriter) x91.op (wr ((wr ((wr (a0.temps + (1 : Int))) + a4.args)) + x91.a)) (0 : Int) (0 : Int)).bind fun r129 => some ((r129.w, r129.m, r129.out, r129.temps, r129.at_, r129.fix))) else (((bif decide (x91.op = (4 : Int)) then ((inline_writer_put N (⟨v68, v69, v70, v71, v72, v73⟩ : TWriter) (19 : Int) a0.temps x91.a (0 : Int)).bind fun r140 => some ((r140.w, r140.m, r140.out, r140.temps, r140.at_, r140.fix))) else (((bif decide (x91.op = (12 : Int)) then ((inline_writer_put N (⟨v68, v69, v70, v71, v72, v73⟩ : TWriter) (20 : Int) a0.temps x91.a (0 : Int)).bind fun r151 => some ((r151.w, r151.m, r151.out, r151.temps, r151.at_, r151.fix))) else (((bif decide (x91.op = (15 : Int)) then some (decide (x91.op = (15 : Int))) else some (decide (x91.op = (16 : Int)))) : Option Bool).bind fun v153 => (((bif v153 then ((inline_writer_put N (⟨v68, v69, v70, v71, v72, v73⟩ : TWriter) x91.op (wr ((v49.length : Int) + x91.a)) (0 : Int) (0 : Int)).bind fun r166 => some ((r166.w, r166.m, r166.out, r166.temps, r166.at_, r166.fix))) else (((bif decide (x91.op = (17 : Int)) then ((inline_writer_put N (⟨v68, v69, v70, v71, v72, v73⟩ : TWriter) (15 : Int) (wr ((v49.length : Int) + (a4.code.length : Int))) (0 : Int) (0 : Int)).bind fun r178 => some ((r178.w, r178.m, r178.out, r178.temps, r178.at_, r178.fix))) else ((inline_writer_put N (⟨v68, v69, v70, v71, v72, v73⟩ : TWriter) x91.op x91.a (0 : Int) (0 : Int)).bind fun r180 => some ((r180.w, r180.m, r180.out, r180.temps, r180.at_, r180.fix)))) : Option (Wd × Me × (List Ins) × Int × (List Int) × (List Int))).bind fun (v168, v169, v170, v171, v172, v173) => some ((v168, v169, v170, v171, v172, v173)))) : Option (Wd × Me × (List Ins) × Int × (List Int) × (List Int))).bind fun (v157, v158, v159, v160, v161, v162) => some ((v157, v158, v159, v160, v161, v162))))) : Option (Wd × Me × (List Ins) × Int × (List Int) × (List Int))).bind fun (v142, v143, v144, v145, v146, v147) => some ((v142, v143, v144, v145, v146, v147)))) : Option (Wd × Me × (List Ins) × Int × (List Int) × (List Int))).bind fun (v131, v132, v133, v134, v135, v136) => some ((v131, v132, v133, v134, v135, v136)))) : Option (Wd × Me × (List Ins) × Int × (List Int) × (List Int))).bind fun (v120, v121, v122, v123, v124, v125) => some ((v120, v121, v122, v123, v124, v125))))) : Option (Wd × Me × (List Ins) × Int × (List Int) × (List Int))).bind fun (v105, v106, v107, v108, v109, v110) => some ((v105, v106, v107, v108, v109, v110)))) : Option (Wd × Me × (List Ins) × Int × (List Int) × (List Int))).bind fun (v94, v95, v96, v97, v98, v99) => inline_writer_send_l3 N a0 a4 v49 rest88 (k67 + 1) v94 v95 v96 v97 v98 v99)

def inline_writer_send (N : Nat) (a0 : TWriter) (a1 : Int) (a2 : Int) (a3 : Ins) (a4 : Me) : Option TWriter :=
  ((inline_writer_put N (⟨a0.w, a0.m, a0.out, (wr (a0.temps + (wr ((wr ((1 : Int) + a4.args)) + a4.temps)))), a0.at_, a0.fix⟩ : TWriter) (18 : Int) a1 a3.a a2).bind fun r1 => ((inline_writer_put N (⟨r1.w, r1.m, r1.out, r1.temps, r1.at_, r1.fix⟩ : TWriter) (21 : Int) (0 : Int) (0 : Int) (0 : Int)).bind fun r3 => ((inline_writer_send_l1 N a0 N r3.w r3.m r3.out r3.temps r3.at_ r3.fix a4.args).bind fun (v20, v21, v22, v23, v24, v25) => ((inline_writer_send_l2 N a0 a4 ((a4.temps - ((0 : Nat) : Int)).toNat) 0 v20 v21 v22 v23 v24 v25).bind fun (v47, v48, v49, v50, v51, v52) => ((inline_writer_send_l3 N a0 a4 v49 a4.code 0 v47 v48 v49 v50 v51 v52).bind fun (v80, v81, v82, v83, v84, v85) => some (⟨v80, v81, v82, v83, v84, v85⟩ : TWriter))))))

def inline_Method_l1 (N : Nat) (a3 : (List Int)) (x14 : Me) : List Ins → Nat → Wd → Me → (List Ins) → Int → (List Int) → (List Int) → Bool → Option ((Wd × Me × (List Ins) × Int × (List Int) × (List Int) × Bool))
  | [], k17, v18, v19, v20, v21, v22, v23, v24 => some ((v18, v19, v20, v21, v22, v23, v24))
  | x44 :: rest41, k17, v18, v19, v20, v21, v22, v23, v24 => (((bif Nat.ble ((v22.length + [(v20.length : Int)].length) * 8) 140737488355328 then (((bif decide (x44.op = (14 : Int)) then (bif decide ((k17 : Int) < (a3.length : Int)) then ((nthO a3 (k17 : Int)).bind fun x64 => some (decide ((0 : Int) ≤ x64))) else some (false)) else some (false)) : Option Bool).bind fun v58 => (bif v58 then ((nthO a3 (k17 : Int)).bind fun x67 => ((inline_writer_callee N (⟨v18, v19, v20, v21, (v22 ++ [(v20.length : Int)]), v23⟩ : TWriter) x67 x44.name).bind fun r69 => match r69 with | (none, w71) => (((bif decide (x44.op = (15 : Int)) then some (true) else some (decide (x44.op = (16 : Int)))) : Option Bool).bind fun v73 => (((bif v73 then (bif Nat.ble ((w71.fix.length + [(w71.out.length : Int)].length) * 8) 140737488355328 then some ((w71.fix ++ [(w71.out.length : Int)])) else none) else some (w71.fix)) : Option (List Int)).bind fun v77 => (((bif decide (x44.op = (14 : Int)) then some ((⟨x44.op, x44.a, x44.b, (k17 : Int), x44.name⟩ : Ins)) else some (x44)) : Option Ins).bind fun v83 => (bif Nat.ble ((w71.out.length + [v83].length) * 48) 140737488355328 then some ((w71.w, w71.m, (w71.out ++ [v83]), w71.temps, w71.at_, v77, v24)) else none)))) | (some x72, w71) => ((((choose_Leaf N x72).bind fun r91 => (bif r91 then (bif decide (x72.args = x44.a) then ((inline_size N x72).bind fun r96 => (bif decide ((wr ((wr ((wr ((w71.out.length : Int) + r96)) + (x14.code.length : Int))) - (k17 : Int))) ≤ (240 : Int)) then some (decide ((wr ((wr ((wr (w71.temps + (1 : Int))) + x72.args)) + x72.temps)) ≤ (40 : Int))) else some (false))) else some (false)) else some (false))) : Option Bool).bind fun v88 => (bif v88 then ((nthO a3 (k17 : Int)).bind fun x101 => ((inline_writer_send N (⟨w71.w, w71.m, w71.out, w71.temps, w71.at_, w71.fix⟩ : TWriter) x101 (k17 : Int) x44 x72).bind fun r103 => some ((r103.w, r103.m, r103.out, r103.temps, r103.at_, r103.fix, true)))) else (((bif decide (x44.op = (15 : Int)) then some (true) else some (decide (x44.op = (16 : Int)))) : Option Bool).bind fun v105 => (((bif v105 then (bif Nat.ble ((w71.fix.length + [(w71.out.length : Int)].length) * 8) 140737488355328 then some ((w71.fix ++ [(w71.out.length : Int)])) else none) else some (w71.fix)) : Option (List Int)).bind fun v109 => (((bif decide (x44.op = (14 : Int)) then some ((⟨x44.op, x44.a, x44.b, (k17 : Int), x44.name⟩ : Ins)) else some (x44)) : Option Ins).bind fun v115 => (bif Nat.ble ((w71.out.length + [v115].length) * 48) 140737488355328 then some ((w71.w, w71.m, (w71.out ++ [v115]), w71.temps, w71.at_, v109, v24)) else none)))))))) else (((bif decide (x44.op = (15 : Int)) then some (true) else some (decide (x44.op = (16 : Int)))) : Option Bool).bind fun v120 => (((bif v120 then (bif Nat.ble ((v23.length + [(v20.length : Int)].length) * 8) 140737488355328 then some ((v23 ++ [(v20.length : Int)])) else none) else some (v23)) : Option (List Int)).bind fun v124 => (((bif decide (x44.op = (14 : Int)) then some ((⟨x44.op, x44.a, x44.b, (k17 : Int), x44.name⟩ : Ins)) else some (x44)) : Option Ins).bind fun v130 => (bif Nat.ble ((v20.length + [v130].length) * 48) 140737488355328 then some ((v18, v19, (v20 ++ [v130]), v21, (v22 ++ [(v20.length : Int)]), v124, v24)) else none)))))) else none) : Option (Wd × Me × (List Ins) × Int × (List Int) × (List Int) × Bool)).bind fun (v47, v48, v49, v50, v51, v52, v53) => inline_Method_l1 N a3 x14 rest41 (k17 + 1) v47 v48 v49 v50 v51 v52 v53)

def inline_Method_l2 (N : Nat) (v36 : (List Int)) (v37 : (List Int)) : List Int → Nat → (List Ins) → Option ((List Ins))
  | [], k137, v138 => some (v138)
  | x146 :: rest143, k137, v138 => ((nthO v37 (k137 : Int)).bind fun x149 => ((nthO v138 x149).bind fun x151 => ((nthO v36 x151.a).bind fun x153 => ((nthO v138 x149).bind fun x155 => inline_Method_l2 N v36 v37 rest143 (k137 + 1) (v138.set x149.toNat (⟨x155.op, x153, x155.b, x155.c, x155.name⟩ : Ins))))))

def inline_Method (N : Nat) (a0 : Wd) (a1 : Int) (a2 : Int) (a3 : (List Int)) : Option (Fs × Bool) :=
  (((bif decide (a1 < (0 : Int)) then some (true) else (bif decide ((a0.classes.length : Int) ≤ a1) then some (true) else (bif decide (a2 < (0 : Int)) then some (true) else ((nthO a0.classes a1).bind fun x8 => some (decide ((x8.methods.length : Int) ≤ a2)))))) : Option Bool).bind fun v1 => (bif v1 then some ((⟨(0 : Int), ByteArray.empty, (0 : Int), (0 : Int), []⟩ : Fs), false) else ((nthO a0.classes a1).bind fun x12 => ((nthO x12.methods a2).bind fun x14 => ((inline_Method_l1 N a3 x14 x14.code 0 a0 x14 ([] : List Ins) x14.temps ([] : List Int) ([] : List Int) false).bind fun (v32, v33, v34, v35, v36, v37, v38) => (bif (!v38) then some ((⟨(0 : Int), ByteArray.empty, (0 : Int), (0 : Int), []⟩ : Fs), false) else ((inline_Method_l2 N v36 v37 v37 0 v34).bind fun v140 => some ((⟨a1, x14.name, a0.epoch, v35, v140⟩ : Fs), true))))))))

def qcref5_Leaf_l1 (N : Nat) : List Ins → Nat → Option (Ctl Bool Unit)
  | [], k2 => some (.next ())
  | x8 :: rest5, k2 => (((bif decide (x8.op = (14 : Int)) then some (true) else some (decide (x8.op = (13 : Int)))) : Option Bool).bind fun v11 => (bif v11 then some (.ret false) else qcref5_Leaf_l1 N rest5 (k2 + 1)))

def qcref5_Leaf (N : Nat) (a0 : Me) : Option Bool :=
  ((qcref5_Leaf_l1 N a0.code 0).bind fun o => match o with | .ret r => some r | .next () => some (decide (a0.prim = (0 : Int))))

def qcref5_Piece_l1 (N : Nat) (a0 : Me) (a1 : Int) : Nat → Nat → (List Ins) → Option ((List Ins))
  | 0, k1, v2 => some (v2)
  | n9 + 1, k1, v2 => (bif Nat.ble ((v2.length + [(⟨(11 : Int), (wr ((wr (a1 + a0.args)) - (k1 : Int))), (0 : Int), (0 : Int), ByteArray.empty⟩ : Ins)].length) * 48) 140737488355328 then qcref5_Piece_l1 N a0 a1 n9 (k1 + 1) (v2 ++ [(⟨(11 : Int), (wr ((wr (a1 + a0.args)) - (k1 : Int))), (0 : Int), (0 : Int), ByteArray.empty⟩ : Ins)]) else none)

def qcref5_Piece_l2 (N : Nat) (a0 : Me) (a1 : Int) : Nat → Nat → (List Ins) → Option ((List Ins))
  | 0, k15, v16 => some (v16)
  | n23 + 1, k15, v16 => (bif Nat.ble ((v16.length + [(⟨(6 : Int), (0 : Int), (0 : Int), (0 : Int), ByteArray.empty⟩ : Ins), (⟨(11 : Int), (wr ((wr ((wr (a1 + (1 : Int))) + a0.args)) + (k15 : Int))), (0 : Int), (0 : Int), ByteArray.empty⟩ : Ins)].length) * 48) 140737488355328 then qcref5_Piece_l2 N a0 a1 n23 (k15 + 1) (v16 ++ [(⟨(6 : Int), (0 : Int), (0 : Int), (0 : Int), ByteArray.empty⟩ : Ins), (⟨(11 : Int), (wr ((wr ((wr (a1 + (1 : Int))) + a0.args)) + (k15 : Int))), (0 : Int), (0 : Int), ByteArray.empty⟩ : Ins)]) else none)

def qcref5_Piece_l3 (N : Nat) (a0 : Me) (a1 : Int) (v18 : (List Ins)) : List Ins → Nat → (List Ins) → Option ((List Ins))
  | [], k30, v31 => some (v31)
  | x39 :: rest36, k30, v31 => (((bif decide (x39.op = (1 : Int)) then some ((⟨(3 : Int), a1, (0 : Int), (0 : Int), ByteArray.empty⟩ : Ins)) else (((bif decide (x39.op = (2 : Int)) then some ((⟨(3 : Int), (wr ((wr (a1 + (1 : Int))) + x39.a)), (0 : Int), (0 : Int), ByteArray.empty⟩ : Ins)) else (((bif decide (x39.op = (3 : Int)) then some (decide (x39.op = (3 : Int))) else some (decide (x39.op = (11 : Int)))) : Option Bool).bind fun v50 => (((bif v50 then some ((⟨x39.op, (wr (x39.a + (wr ((wr (a1 + (1 : Int))) + a0.args)))), x39.b, x39.c, x39.name⟩ : Ins)) else (((bif decide (x39.op = (4 : Int)) then some ((⟨(19 : Int), a1, x39.a, (0 : Int), ByteArray.empty⟩ : Ins)) else (((bif decide (x39.op = (12 : Int)) then some ((⟨(20 : Int), a1, x39.a, (0 : Int), ByteArray.empty⟩ : Ins)) else (((bif decide (x39.op = (15 : Int)) then some (decide (x39.op = (15 : Int))) else some (decide (x39.op = (16 : Int)))) : Option Bool).bind fun v66 => (((bif v66 then some ((⟨x39.op, (wr (x39.a + (v18.length : Int))), x39.b, x39.c, x39.name⟩ : Ins)) else (((bif decide (x39.op = (17 : Int)) then some ((⟨(15 : Int), (wr ((v18.length : Int) + (a0.code.length : Int))), (0 : Int), (0 : Int), ByteArray.empty⟩ : Ins)) else some (x39)) : Option Ins).bind fun v74 => some (v74))) : Option Ins).bind fun v70 => some (v70)))) : Option Ins).bind fun v62 => some (v62))) : Option Ins).bind fun v58 => some (v58))) : Option Ins).bind fun v54 => some (v54)))) : Option Ins).bind fun v46 => some (v46))) : Option Ins).bind fun v42 => (bif Nat.ble ((v31.length + [v42].length) * 48) 140737488355328 then qcref5_Piece_l3 N a0 a1 v18 rest36 (k30 + 1) (v31 ++ [v42]) else none))

def qcref5_Piece (N : Nat) (a0 : Me) (a1 : Int) (a2 : Int) (a3 : Int) : Option (List Ins) :=
  ((qcref5_Piece_l1 N a0 a1 ((a0.args - ((0 : Nat) : Int)).toNat) 0 [(⟨(18 : Int), a2, a0.args, a3, ByteArray.empty⟩ : Ins), (⟨(21 : Int), (0 : Int), (0 : Int), (0 : Int), ByteArray.empty⟩ : Ins)]).bind fun v4 => (bif Nat.ble ((v4.length + [(⟨(11 : Int), a1, (0 : Int), (0 : Int), ByteArray.empty⟩ : Ins)].length) * 48) 140737488355328 then ((qcref5_Piece_l2 N a0 a1 ((a0.temps - ((0 : Nat) : Int)).toNat) 0 (v4 ++ [(⟨(11 : Int), a1, (0 : Int), (0 : Int), ByteArray.empty⟩ : Ins)])).bind fun v18 => ((qcref5_Piece_l3 N a0 a1 v18 a0.code 0 v18).bind fun v33 => some v33)) else none))

def qcref5_Fast_l1 (N : Nat) (a0 : Wd) (a3 : (List Int)) (x14 : Me) : List Ins → Nat → Int → Int → (List (List Ins)) → (List Int) → (List (Int × Bool)) → Option ((Int × (List (List Ins)) × (List Int) × (List (Int × Bool))))
  | [], k17, v18, v19, v20, v21, v22 => some ((v18, v20, v21, v22))
  | x37 :: rest34, k17, v18, v19, v20, v21, v22 => (bif Nat.ble ((v21.length + [v19].length) * 8) 140737488355328 then (((bif decide (x37.op = (14 : Int)) then ((nthO [x37] (0 : Int)).bind fun x47 => (((bif decide ((k17 : Int) < (a3.length : Int)) then ((nthO a3 (k17 : Int)).bind fun x54 => some (decide ((0 : Int) ≤ x54))) else some (false)) : Option Bool).bind fun v49 => (((bif v49 then ((nthO a3 (k17 : Int)).bind fun x62 => ((qcref1_Find N a0 x62 x37.name).bind fun r64 => (((bif decide ((0 : Int) ≤ r64.2) then ((nthO a0.classes r64.1).bind fun x72 => ((nthO x72.methods r64.2).bind fun x74 => ((((qcref5_Leaf N x74).bind fun r80 => (bif r80 then (bif decide (x74.args = x37.a) then (bif decide ((wr ((wr ((wr (v19 + (wr ((wr ((wr ((3 : Int) + x74.args)) + (wr ((2 : Int) * x74.temps)))) + (x74.code.length : Int))))) + (x14.code.length : Int))) - (k17 : Int))) ≤ (240 : Int)) then some (decide ((wr ((wr ((wr (v18 + (1 : Int))) + x74.args)) + x74.temps)) ≤ (40 : Int))) else some (false)) else some (false)) else some (false))) : Option Bool).bind fun v77 => (((bif v77 then ((nthO a3 (k17 : Int)).bind fun x92 => ((qcref5_Piece N x74 v18 x92 (k17 : Int)).bind fun r94 => (bif Nat.ble (v22.length + 1) 140737488355328 then some (((wr ((wr ((wr (v18 + (1 : Int))) + x74.args)) + x74.temps)), (mSet (k17 : Int) true v22), r94)) else none))) else some ((v18, v22, ([x37].set ((0 : Int).toNat) (⟨x47.op, x47.a, x47.b, (k17 : Int), x47.name⟩ : Ins))))) : Option (Int × (List (Int × Bool)) × (List Ins))).bind fun (v86, v87, v88) => some ((v86, v87, v88)))))) else some ((v18, v22, ([x37].set ((0 : Int).toNat) (⟨x47.op, x47.a, x47.b, (k17 : Int), x47.name⟩ : Ins))))) : Option (Int × (List (Int × Bool)) × (List Ins))).bind fun (v66, v67, v68) => some ((v66, v67, v68))))) else some ((v18, v22, ([x37].set ((0 : Int).toNat) (⟨x47.op, x47.a, x47.b, (k17 : Int), x47.name⟩ : Ins))))) : Option (Int × (List (Int × Bool)) × (List Ins))).bind fun (v56, v57, v58) => some ((v56, v57, v58))))) else some ((v18, v22, [x37]))) : Option (Int × (List (Int × Bool)) × (List Ins))).bind fun (v41, v42, v43) => (bif Nat.ble ((v20.length + [v43].length) * 24) 140737488355328 then qcref5_Fast_l1 N a0 a3 x14 rest34 (k17 + 1) v41 (wr (v19 + (v43.length : Int))) (v20 ++ [v43]) (v21 ++ [v19]) v42 else none)) else none)

def qcref5_Fast_l3 (N : Nat) (v30 : (List Int)) (v31 : (List (Int × Bool))) (k101 : Nat) : List Ins → Nat → (List Ins) → Option ((List Ins))
  | [], k116, v117 => some (v117)
  | x125 :: rest122, k116, v117 => (((bif decide (x125.op = (15 : Int)) then some (true) else some (decide (x125.op = (16 : Int)))) : Option Bool).bind fun v128 => (((bif v128 then (((bif (mGet (k101 : Int) v31) then ((nthO v30 (k101 : Int)).bind fun x140 => some ((wr (x125.a + x140)))) else ((nthO v30 x125.a).bind fun x142 => some (x142))) : Option Int).bind fun v136 => some ((⟨x125.op, v136, x125.b, x125.c, x125.name⟩ : Ins))) else some (x125)) : Option Ins).bind fun v132 => (bif Nat.ble ((v117.length + [v132].length) * 48) 140737488355328 then qcref5_Fast_l3 N v30 v31 k101 rest122 (k116 + 1) (v117 ++ [v132]) else none)))

def qcref5_Fast_l2 (N : Nat) (v29 : (List (List Ins))) (v30 : (List Int)) (v31 : (List (Int × Bool))) : List (List Ins) → Nat → (List Ins) → Option ((List Ins))
  | [], k101, v102 => some (v102)
  | x110 :: rest107, k101, v102 => ((nthO v29 (k101 : Int)).bind fun x113 => ((qcref5_Fast_l3 N v30 v31 k101 x113 0 v102).bind fun v119 => qcref5_Fast_l2 N v29 v30 v31 rest107 (k101 + 1) v119))

def qcref5_Fast (N : Nat) (a0 : Wd) (a1 : Int) (a2 : Int) (a3 : (List Int)) : Option (Fs × Bool) :=
  (((bif decide (a1 < (0 : Int)) then some (true) else (bif decide ((a0.classes.length : Int) ≤ a1) then some (true) else (bif decide (a2 < (0 : Int)) then some (true) else ((nthO a0.classes a1).bind fun x8 => some (decide ((x8.methods.length : Int) ≤ a2)))))) : Option Bool).bind fun v1 => (bif v1 then some ((⟨(0 : Int), ByteArray.empty, (0 : Int), (0 : Int), []⟩ : Fs), false) else ((nthO a0.classes a1).bind fun x12 => ((nthO x12.methods a2).bind fun x14 => ((qcref5_Fast_l1 N a0 a3 x14 x14.code 0 x14.temps (0 : Int) ([] : List (List Ins)) ([] : List Int) ([] : (List (Int × Bool)))).bind fun (v28, v29, v30, v31) => (bif decide ((v31.length : Int) = (0 : Int)) then some ((⟨(0 : Int), ByteArray.empty, (0 : Int), (0 : Int), []⟩ : Fs), false) else ((qcref5_Fast_l2 N v29 v30 v31 v29 0 ([] : List Ins)).bind fun v104 => some ((⟨a1, x14.name, a0.epoch, v28, v104⟩ : Fs), true))))))))

def qcref1_SameCode_l1 (N : Nat) (a1 : (List Ins)) : List Ins → Nat → Option (Ctl Bool Unit)
  | [], k5 => some (.next ())
  | x11 :: rest8, k5 => ((nthO a1 (k5 : Int)).bind fun x14 => (bif (!(eqAs (eIns x11) (eIns x14))) then some (.ret false) else qcref1_SameCode_l1 N a1 rest8 (k5 + 1)))

def qcref1_SameCode (N : Nat) (a0 : (List Ins)) (a1 : (List Ins)) : Option Bool :=
  (bif (!decide ((a0.length : Int) = (a1.length : Int))) then some false else ((qcref1_SameCode_l1 N a1 a0 0).bind fun o => match o with | .ret r => some r | .next () => some true))

def qcref5_SameFast (N : Nat) (a0 : Fs) (a1 : Fs) : Option Bool :=
  (((bif decide (a0.cls = a1.cls) then (bif decide (a0.name = a1.name) then (bif decide (a0.epoch = a1.epoch) then (bif decide (a0.temps = a1.temps) then ((qcref1_SameCode N a0.code a1.code).bind fun r8 => some (r8)) else some (false)) else some (false)) else some (false)) else some (false)) : Option Bool).bind fun v1 => some v1)

def qclaw10_InlineTells (N : Nat) (a0 : Wd) (a1 : Int) (a2 : Int) (a3 : (List Int)) : Option Bool :=
  ((qcref1_Right N a0).bind fun r1 => (bif (!decide (r1 = (0 : Int))) then some true else ((inline_Method N a0 a1 a2 a3).bind fun r4 => ((qcref5_Fast N a0 a1 a2 a3).bind fun r6 => (((bif decide (r4.2 = r6.2) then ((qcref5_SameFast N r4.1 r6.1).bind fun r12 => some (r12)) else some (false)) : Option Bool).bind fun v8 => some v8)))))

def qcref1_Make_l1 (N : Nat) (a1 : ByteArray) : List Cl → Nat → Option (Ctl (Wd × Int × Int) Unit)
  | [], k5 => some (.next ())
  | x11 :: rest8, k5 => (bif decide (x11.name = a1) then some (.ret ((⟨[], [], (0 : Int)⟩ : Wd), (0 : Int), (7 : Int))) else qcref1_Make_l1 N a1 rest8 (k5 + 1))

def qcref1_Make (N : Nat) (a0 : Wd) (a1 : ByteArray) (a2 : Int) (a3 : Int) : Option (Wd × Int × Int) :=
  ((qcref1_Name N a1).bind fun r1 => (bif (!r1) then some ((⟨[], [], (0 : Int)⟩ : Wd), (0 : Int), (7 : Int)) else ((qcref1_Make_l1 N a1 a0.classes 0).bind fun o => match o with | .ret r => some r | .next () => (((bif decide (a2 < (0 : Int)) then some (true) else some (decide ((a0.classes.length : Int) ≤ a2))) : Option Bool).bind fun v15 => (bif v15 then some ((⟨[], [], (0 : Int)⟩ : Wd), (0 : Int), (6 : Int)) else (((bif decide (a3 < (0 : Int)) then some (true) else (bif decide ((6 : Int) < a3) then some (true) else ((qcref1_Slots N a0 a2).bind fun r26 => (bif decide ((6 : Int) < (wr (a3 + r26))) then some (true) else (bif decide ((0 : Int) < a2) then some (decide (a2 < (4 : Int))) else some (false)))))) : Option Bool).bind fun v21 => (bif v21 then some ((⟨[], [], (0 : Int)⟩ : Wd), (0 : Int), (3 : Int)) else (bif decide ((12 : Int) ≤ (a0.classes.length : Int)) then some ((⟨[], [], (0 : Int)⟩ : Wd), (0 : Int), (5 : Int)) else (bif Nat.ble ((([] : List Cl).length + a0.classes.length) * 56) 140737488355328 then (bif Nat.ble (((([] : List Cl) ++ a0.classes).length + [(⟨a1, a2, a3, []⟩ : Cl)].length) * 56) 140737488355328 then some ((⟨((([] : List Cl) ++ a0.classes) ++ [(⟨a1, a2, a3, []⟩ : Cl)]), a0.heap, a0.epoch⟩ : Wd), (a0.classes.length : Int), (0 : Int)) else none) else none)))))))))

def qcref1_Install_l1 (N : Nat) (a2 : Me) : List Me → Nat → (List Me) → Bool → Bool → Option (((List Me) × Bool × Bool))
  | [], k10, v11, v12, v13 => some ((v11, v12, v13))
  | x25 :: rest22, k10, v11, v12, v13 => (((bif decide (x25.name = a2.name) then (bif Nat.ble ((v11.length + [a2].length) * 64) 140737488355328 then some (((v11 ++ [a2]), true, true)) else none) else (((bif (!v12) then some ((!(ltS x25.name a2.name || decide (x25.name = a2.name)))) else some (false)) : Option Bool).bind fun v35 => (((bif v35 then (bif Nat.ble ((v11.length + [a2].length) * 64) 140737488355328 then some (((v11 ++ [a2]), true)) else none) else some ((v11, v12))) : Option ((List Me) × Bool)).bind fun (v39, v40) => (bif Nat.ble ((v39.length + [x25].length) * 64) 140737488355328 then some (((v39 ++ [x25]), v40, v13)) else none)))) : Option ((List Me) × Bool × Bool)).bind fun (v28, v29, v30) => qcref1_Install_l1 N a2 rest22 (k10 + 1) v28 v29 v30)

def qcref1_Install (N : Nat) (a0 : Wd) (a1 : Int) (a2 : Me) : Option (Wd × Int) :=
  (((bif decide (a1 < (0 : Int)) then some (true) else some (decide ((a0.classes.length : Int) ≤ a1))) : Option Bool).bind fun v1 => (bif v1 then some ((⟨[], [], (0 : Int)⟩ : Wd), (6 : Int)) else ((nthO a0.classes a1).bind fun x7 => ((qcref1_Install_l1 N a2 x7.methods 0 ([] : List Me) false false).bind fun (v17, v18, v19) => (((bif (!v18) then (bif Nat.ble ((v17.length + [a2].length) * 64) 140737488355328 then some ((v17 ++ [a2])) else none) else some (v17)) : Option (List Me)).bind fun v46 => (((bif (!v19) then ((nthO a0.classes a1).bind fun x55 => some (decide ((8 : Int) ≤ (x55.methods.length : Int)))) else some (false)) : Option Bool).bind fun v51 => (bif v51 then some ((⟨[], [], (0 : Int)⟩ : Wd), (5 : Int)) else (bif Nat.ble ((([] : List Cl).length + a0.classes.length) * 56) 140737488355328 then ((nthO (([] : List Cl) ++ a0.classes) a1).bind fun x60 => some ((⟨((([] : List Cl) ++ a0.classes).set a1.toNat (⟨x60.name, x60.super, x60.slots, v46⟩ : Cl)), a0.heap, (wr (a0.epoch + (1 : Int)))⟩ : Wd), (0 : Int))) else none))))))))

def qclaw10_alive (N : Nat) : Option Bool :=
  ((qcref1_New N).bind fun r1 => ((qcref1_Make N r1 (⟨#[65]⟩ : ByteArray) (0 : Int) (1 : Int)).bind fun r3 => ((qcref1_Install N r3.1 r3.2.1 (⟨(⟨#[103]⟩ : ByteArray), (0 : Int), (0 : Int), (0 : Int), [(⟨(4 : Int), (0 : Int), (0 : Int), (0 : Int), ByteArray.empty⟩ : Ins), (⟨(17 : Int), (0 : Int), (0 : Int), (0 : Int), ByteArray.empty⟩ : Ins)]⟩ : Me)).bind fun r5 => ((qcref1_Install N r5.1 r3.2.1 (⟨(⟨#[109]⟩ : ByteArray), (0 : Int), (0 : Int), (0 : Int), [(⟨(1 : Int), (0 : Int), (0 : Int), (0 : Int), ByteArray.empty⟩ : Ins), (⟨(14 : Int), (0 : Int), (0 : Int), (0 : Int), (⟨#[103]⟩ : ByteArray)⟩ : Ins), (⟨(17 : Int), (0 : Int), (0 : Int), (0 : Int), ByteArray.empty⟩ : Ins)]⟩ : Me)).bind fun r7 => ((inline_Method N r7.1 r3.2.1 (1 : Int) [(-1 : Int), r3.2.1, (-1 : Int)]).bind fun r9 => ((inline_Method N r7.1 r3.2.1 (1 : Int) []).bind fun r11 => (((bif r9.2 then (bif (!r11.2) then (bif decide (r9.1.cls = r3.2.1) then (bif decide (r9.1.name = (⟨#[109]⟩ : ByteArray)) then (bif decide (r9.1.temps = (1 : Int)) then (bif decide ((r9.1.code.length : Int) = (7 : Int)) then ((nthO r9.1.code (1 : Int)).bind fun x23 => some (decide (x23.op = (18 : Int)))) else some (false)) else some (false)) else some (false)) else some (false)) else some (false)) else some (false)) : Option Bool).bind fun v13 => some v13)))))))

def qclaw10_InlineRoom_l1 (N : Nat) (a0 : Wd) (a1 : Int) (a2 : Int) (a3 : (List Int)) (r7 : (Fs × Bool)) : List Ins → Nat → Int → Option (Ctl Bool Int)
  | [], k26, v27 => some (.next v27)
  | x35 :: rest32, k26, v27 => (((bif decide (x35.op = (15 : Int)) then some (decide (x35.op = (15 : Int))) else some (decide (x35.op = (16 : Int)))) : Option Bool).bind fun v38 => (((bif v38 then (((bif decide (x35.a < (0 : Int)) then some (true) else some (decide ((r7.1.code.length : Int) < x35.a))) : Option Bool).bind fun v46 => (bif v46 then some (.ret false) else some (.next v27))) else (((bif decide (x35.op = (18 : Int)) then (((bif decide (x35.c < (0 : Int)) then some (true) else ((nthO a0.classes a1).bind fun x60 => ((nthO x60.methods a2).bind fun x62 => (bif decide ((x62.code.length : Int) ≤ x35.c) then some (true) else (bif decide ((a3.length : Int) ≤ x35.c) then some (true) else ((nthO a3 x35.c).bind fun x68 => some ((!decide (x68 = x35.a))))))))) : Option Bool).bind fun v56 => (bif v56 then some (.ret false) else some (.next (wr (v27 + (1 : Int)))))) else some (.next v27)) : Option (Ctl Bool Int)).bind fun o => match o with | .ret r => some (.ret r) | .next v52 => some (.next v52))) : Option (Ctl Bool Int)).bind fun o => match o with | .ret r => some (.ret r) | .next v42 => qclaw10_InlineRoom_l1 N a0 a1 a2 a3 r7 rest32 (k26 + 1) v42))

def qclaw10_InlineRoom (N : Nat) (a0 : Wd) (a1 : Int) (a2 : Int) (a3 : (List Int)) : Option Bool :=
  ((qclaw10_alive N).bind fun r1 => (bif (!r1) then some false else ((qcref1_Right N a0).bind fun r4 => (bif (!decide (r4 = (0 : Int))) then some true else ((inline_Method N a0 a1 a2 a3).bind fun r7 => (bif (!r7.2) then some (decide ((r7.1.code.length : Int) = (0 : Int))) else (((bif decide ((240 : Int) < (r7.1.code.length : Int)) then some (true) else (bif decide ((40 : Int) < r7.1.temps) then some (true) else (bif decide (a1 < (0 : Int)) then some (true) else (bif decide ((a0.classes.length : Int) ≤ a1) then some (true) else (bif decide (a2 < (0 : Int)) then some (true) else ((nthO a0.classes a1).bind fun x21 => some (decide ((x21.methods.length : Int) ≤ a2)))))))) : Option Bool).bind fun v11 => (bif v11 then some false else ((qclaw10_InlineRoom_l1 N a0 a1 a2 a3 r7 r7.1.code 0 (0 : Int)).bind fun o => match o with | .ret r => some r | .next v29 => some (decide ((0 : Int) < v29)))))))))))

def qclaw11_small_l2 (N : Nat) : List Ln → Nat → Option (Ctl Bool Unit)
  | [], k12 => some (.next ())
  | x18 :: rest15, k12 => (((bif decide (x18.found < (0 : Int)) then some (true) else some (decide ((1000000 : Int) < x18.found))) : Option Bool).bind fun v21 => (bif v21 then some (.ret false) else qclaw11_small_l2 N rest15 (k12 + 1)))

def qclaw11_small_l1 (N : Nat) : List Tl → Nat → Option (Ctl Bool Unit)
  | [], k2 => some (.next ())
  | x8 :: rest5, k2 => ((qclaw11_small_l2 N x8.classes 0).bind fun o => match o with | .ret r => some (.ret r) | .next () => qclaw11_small_l1 N rest5 (k2 + 1))

def qclaw11_small (N : Nat) (a0 : (List Tl)) : Option Bool :=
  ((qclaw11_small_l1 N a0 0).bind fun o => match o with | .ret r => some r | .next () => some true)

def tally_Most_l2 (N : Nat) : List Ln → Nat → Int → Int → Option ((Int × Int))
  | [], k23, v24, v25 => some ((v24, v25))
  | x35 :: rest32, k23, v24, v25 => (((bif decide (v25 < x35.found) then some (true) else (bif decide (x35.found = v25) then (bif decide ((0 : Int) < v25) then some (decide (x35.cls < v24)) else some (false)) else some (false))) : Option Bool).bind fun v38 => (((bif v38 then some ((x35.cls, x35.found)) else some ((v24, v25))) : Option (Int × Int)).bind fun (v44, v45) => tally_Most_l2 N rest32 (k23 + 1) v44 v45))

def tally_Most_l1 (N : Nat) (a1 : St) : List Tl → Nat → Int → Int → Option ((Int × Int))
  | [], k2, v3, v4 => some ((v3, v4))
  | x14 :: rest11, k2, v3, v4 => (((bif (!(eqAs (eSt x14.site) (eSt a1))) then some ((v3, v4)) else ((tally_Most_l2 N x14.classes 0 v3 v4).bind fun (v28, v29) => some ((v28, v29)))) : Option (Int × Int)).bind fun (v17, v18) => tally_Most_l1 N a1 rest11 (k2 + 1) v17 v18)

def tally_Most (N : Nat) (a0 : (List Tl)) (a1 : St) : Option (Int × Int) :=
  ((tally_Most_l1 N a1 a0 0 (-1 : Int) (0 : Int)).bind fun (v7, v8) => some (v7, v8))

def tally_All_l2 (N : Nat) : List Ln → Nat → Int → Option (Int)
  | [], k19, v20 => some (v20)
  | x28 :: rest25, k19, v20 => tally_All_l2 N rest25 (k19 + 1) (wr (v20 + x28.found))

def tally_All_l1 (N : Nat) (a1 : St) : List Tl → Nat → Int → Option (Int)
  | [], k2, v3 => some (v3)
  | x11 :: rest8, k2, v3 => (((bif (!(eqAs (eSt x11.site) (eSt a1))) then some (v3) else ((tally_All_l2 N x11.classes 0 v3).bind fun v22 => some (v22))) : Option Int).bind fun v14 => tally_All_l1 N a1 rest8 (k2 + 1) v14)

def tally_All (N : Nat) (a0 : (List Tl)) (a1 : St) : Option Int :=
  ((tally_All_l1 N a1 a0 0 (0 : Int)).bind fun v5 => some v5)

def choose_Site (N : Nat) (a0 : Wd) (a1 : (List Tl)) (a2 : St) (a3 : ByteArray) (a4 : Int) : Option Int :=
  ((tally_Most N a1 a2).bind fun r1 => ((tally_All N a1 a2).bind fun r3 => (((bif decide (r1.1 < (0 : Int)) then some (true) else (bif decide (r3 < (2 : Int)) then some (true) else some (decide ((wr ((2 : Int) * r1.2)) ≤ r3)))) : Option Bool).bind fun v5 => (bif v5 then some (-1 : Int) else ((class_Find N a0 r1.1 a3).bind fun r11 => (((bif decide (r11.2 < (0 : Int)) then some (true) else ((nthO a0.classes r11.1).bind fun x17 => ((nthO x17.methods r11.2).bind fun x19 => ((choose_Leaf N x19).bind fun r21 => (bif (!r21) then some (true) else ((nthO a0.classes r11.1).bind fun x24 => ((nthO x24.methods r11.2).bind fun x26 => some ((!decide (x26.args = a4)))))))))) : Option Bool).bind fun v13 => (bif v13 then some (-1 : Int) else some r1.1)))))))

def choose_Sites_l1 (N : Nat) (a0 : Wd) (a1 : (List Tl)) (a2 : Int) (x14 : Me) : List Ins → Nat → (List Int) → Option ((List Int))
  | [], k17, v18 => some (v18)
  | x26 :: rest23, k17, v18 => (((bif decide (x26.op = (14 : Int)) then ((choose_Site N a0 a1 (⟨a2, x14.name, (k17 : Int)⟩ : St) x26.name x26.a).bind fun r33 => some (r33)) else some ((-1 : Int))) : Option Int).bind fun v29 => (bif Nat.ble ((v18.length + [v29].length) * 8) 140737488355328 then choose_Sites_l1 N a0 a1 a2 x14 rest23 (k17 + 1) (v18 ++ [v29]) else none))

def choose_Sites (N : Nat) (a0 : Wd) (a1 : (List Tl)) (a2 : Int) (a3 : Int) : Option (List Int) :=
  (((bif decide (a2 < (0 : Int)) then some (true) else (bif decide ((a0.classes.length : Int) ≤ a2) then some (true) else (bif decide (a3 < (0 : Int)) then some (true) else ((nthO a0.classes a2).bind fun x8 => some (decide ((x8.methods.length : Int) ≤ a3)))))) : Option Bool).bind fun v1 => (bif v1 then some ([] : List Int) else ((nthO a0.classes a2).bind fun x12 => ((nthO x12.methods a3).bind fun x14 => ((choose_Sites_l1 N a0 a1 a2 x14 x14.code 0 ([] : List Int)).bind fun v20 => some v20)))))

def fast_All_l2 (N : Nat) (a0 : Wd) (a1 : (List Tl)) (k2 : Nat) : List Me → Nat → (List Fs) → Option ((List Fs))
  | [], k15, v16 => some (v16)
  | x24 :: rest21, k15, v16 => ((choose_Sites N a0 a1 (k2 : Int) (k15 : Int)).bind fun r27 => ((inline_Method N a0 (k2 : Int) (k15 : Int) r27).bind fun r29 => (((bif r29.2 then (bif Nat.ble ((v16.length + [r29.1].length) * 64) 140737488355328 then some ((v16 ++ [r29.1])) else none) else some (v16)) : Option (List Fs)).bind fun v31 => fast_All_l2 N a0 a1 k2 rest21 (k15 + 1) v31)))

def fast_All_l1 (N : Nat) (a0 : Wd) (a1 : (List Tl)) : List Cl → Nat → (List Fs) → Option ((List Fs))
  | [], k2, v3 => some (v3)
  | x11 :: rest8, k2, v3 => ((fast_All_l2 N a0 a1 k2 x11.methods 0 v3).bind fun v18 => fast_All_l1 N a0 a1 rest8 (k2 + 1) v18)

def fast_All (N : Nat) (a0 : Wd) (a1 : (List Tl)) : Option (List Fs) :=
  ((fast_All_l1 N a0 a1 a0.classes 0 ([] : List Fs)).bind fun v5 => some v5)

def qcref1_Most_l2 (N : Nat) : List Ln → Nat → Int → Int → Int → Option ((Int × Int × Int))
  | [], k27, v28, v29, v30 => some ((v28, v29, v30))
  | x42 :: rest39, k27, v28, v29, v30 => (((bif decide (v29 < x42.found) then some (true) else (bif decide ((0 : Int) < v29) then (bif decide (x42.found = v29) then some (decide (x42.cls < v28)) else some (false)) else some (false))) : Option Bool).bind fun v45 => (((bif v45 then some ((x42.cls, x42.found)) else some ((v28, v29))) : Option (Int × Int)).bind fun (v51, v52) => qcref1_Most_l2 N rest39 (k27 + 1) v51 v52 (wr (v30 + x42.found))))

def qcref1_Most_l1 (N : Nat) (a1 : St) : List Tl → Nat → Int → Int → Int → Option ((Int × Int × Int))
  | [], k2, v3, v4, v5 => some ((v3, v4, v5))
  | x17 :: rest14, k2, v3, v4, v5 => (((bif (eqAs (eSt x17.site) (eSt a1)) then ((qcref1_Most_l2 N x17.classes 0 v3 v4 v5).bind fun (v34, v35, v36) => some ((v34, v35, v36))) else some ((v3, v4, v5))) : Option (Int × Int × Int)).bind fun (v20, v21, v22) => qcref1_Most_l1 N a1 rest14 (k2 + 1) v20 v21 v22)

def qcref1_Most (N : Nat) (a0 : (List Tl)) (a1 : St) : Option (Int × Int × Int) :=
  ((qcref1_Most_l1 N a1 a0 0 (-1 : Int) (0 : Int) (0 : Int)).bind fun (v9, v10, v11) => some (v9, v10, v11))

def qcref5_Site (N : Nat) (a0 : Wd) (a1 : (List Tl)) (a2 : St) (a3 : ByteArray) (a4 : Int) : Option Int :=
  ((qcref1_Most N a1 a2).bind fun r1 => (((bif decide (r1.2.2 < (2 : Int)) then some (true) else (bif decide ((wr (r1.2.1 + r1.2.1)) ≤ r1.2.2) then some (true) else some (decide (r1.1 < (0 : Int))))) : Option Bool).bind fun v3 => (bif v3 then some (-1 : Int) else ((qcref1_Find N a0 r1.1 a3).bind fun r9 => (bif decide (r9.2 < (0 : Int)) then some (-1 : Int) else ((nthO a0.classes r9.1).bind fun x12 => ((nthO x12.methods r9.2).bind fun x14 => ((((qcref5_Leaf N x14).bind fun r19 => (bif (!r19) then some (true) else some ((!decide (x14.args = a4))))) : Option Bool).bind fun v16 => (bif v16 then some (-1 : Int) else some r1.1)))))))))

def qcref5_Sites_l1 (N : Nat) (a0 : Wd) (a1 : (List Tl)) (a2 : Int) (x14 : Me) : List Ins → Nat → (List Int) → Option ((List Int))
  | [], k17, v18 => some (v18)
  | x26 :: rest23, k17, v18 => (((bif decide (x26.op = (14 : Int)) then ((qcref5_Site N a0 a1 (⟨a2, x14.name, (k17 : Int)⟩ : St) x26.name x26.a).bind fun r33 => some (r33)) else some ((-1 : Int))) : Option Int).bind fun v29 => (bif Nat.ble ((v18.length + [v29].length) * 8) 140737488355328 then qcref5_Sites_l1 N a0 a1 a2 x14 rest23 (k17 + 1) (v18 ++ [v29]) else none))

def qcref5_Sites (N : Nat) (a0 : Wd) (a1 : (List Tl)) (a2 : Int) (a3 : Int) : Option (List Int) :=
  (((bif decide (a2 < (0 : Int)) then some (true) else (bif decide ((a0.classes.length : Int) ≤ a2) then some (true) else (bif decide (a3 < (0 : Int)) then some (true) else ((nthO a0.classes a2).bind fun x8 => some (decide ((x8.methods.length : Int) ≤ a3)))))) : Option Bool).bind fun v1 => (bif v1 then some ([] : List Int) else ((nthO a0.classes a2).bind fun x12 => ((nthO x12.methods a3).bind fun x14 => ((qcref5_Sites_l1 N a0 a1 a2 x14 x14.code 0 ([] : List Int)).bind fun v20 => some v20)))))

def qcref5_All_l2 (N : Nat) (a0 : Wd) (a1 : (List Tl)) (k2 : Nat) : List Me → Nat → (List Fs) → Option ((List Fs))
  | [], k15, v16 => some (v16)
  | x24 :: rest21, k15, v16 => ((qcref5_Sites N a0 a1 (k2 : Int) (k15 : Int)).bind fun r27 => ((qcref5_Fast N a0 (k2 : Int) (k15 : Int) r27).bind fun r29 => (((bif r29.2 then (bif Nat.ble ((v16.length + [r29.1].length) * 64) 140737488355328 then some ((v16 ++ [r29.1])) else none) else some (v16)) : Option (List Fs)).bind fun v31 => qcref5_All_l2 N a0 a1 k2 rest21 (k15 + 1) v31)))

def qcref5_All_l1 (N : Nat) (a0 : Wd) (a1 : (List Tl)) : List Cl → Nat → (List Fs) → Option ((List Fs))
  | [], k2, v3 => some (v3)
  | x11 :: rest8, k2, v3 => ((qcref5_All_l2 N a0 a1 k2 x11.methods 0 v3).bind fun v18 => qcref5_All_l1 N a0 a1 rest8 (k2 + 1) v18)

def qcref5_All (N : Nat) (a0 : Wd) (a1 : (List Tl)) : Option (List Fs) :=
  ((qcref5_All_l1 N a0 a1 a0.classes 0 ([] : List Fs)).bind fun v5 => some v5)

def qclaw11_FastTells_l1 (N : Nat) (r10 : (List Fs)) (r12 : (List Fs)) : List Fs → Nat → Option (Ctl Bool Unit)
  | [], k18 => some (.next ())
  | x24 :: rest21, k18 => ((nthO r10 (k18 : Int)).bind fun x27 => ((nthO r12 (k18 : Int)).bind fun x29 => ((qcref5_SameFast N x27 x29).bind fun r31 => (bif (!r31) then some (.ret false) else qclaw11_FastTells_l1 N r10 r12 rest21 (k18 + 1)))))

def qclaw11_FastTells (N : Nat) (a0 : Wd) (a1 : (List Tl)) : Option Bool :=
  ((((qcref1_Right N a0).bind fun r4 => (bif (!decide (r4 = (0 : Int))) then some (true) else ((qclaw11_small N a1).bind fun r7 => some ((!r7))))) : Option Bool).bind fun v1 => (bif v1 then some true else ((fast_All N a0 a1).bind fun r10 => ((qcref5_All N a0 a1).bind fun r12 => (bif (!decide ((r10.length : Int) = (r12.length : Int))) then some false else ((qclaw11_FastTells_l1 N r10 r12 r10 0).bind fun o => match o with | .ret r => some r | .next () => some true))))))

def class_prims (N : Nat) : Option (List ByteArray) :=
  some [(⟨#[43]⟩ : ByteArray), (⟨#[45]⟩ : ByteArray), (⟨#[42]⟩ : ByteArray), (⟨#[60]⟩ : ByteArray), (⟨#[61]⟩ : ByteArray)]

def qcref1_SameWorld_l2 (N : Nat) (x21 : Cl) : List Me → Nat → Option (Ctl Bool Unit)
  | [], k33 => some (.next ())
  | x39 :: rest36, k33 => ((nthO x21.methods (k33 : Int)).bind fun x42 => (((bif (!decide (x39.name = x42.name)) then some (true) else (bif (!decide (x39.args = x42.args)) then some (true) else (bif (!decide (x39.temps = x42.temps)) then some (true) else (bif (!decide (x39.prim = x42.prim)) then some (true) else ((qcref1_SameCode N x39.code x42.code).bind fun r51 => some ((!r51))))))) : Option Bool).bind fun v44 => (bif v44 then some (.ret false) else qcref1_SameWorld_l2 N x21 rest36 (k33 + 1))))

def qcref1_SameWorld_l1 (N : Nat) (a1 : Wd) : List Cl → Nat → Option (Ctl Bool Unit)
  | [], k12 => some (.next ())
  | x18 :: rest15, k12 => ((nthO a1.classes (k12 : Int)).bind fun x21 => (((bif (!decide (x18.name = x21.name)) then some (true) else (bif (!decide (x18.super = x21.super)) then some (true) else (bif (!decide (x18.slots = x21.slots)) then some (true) else some ((!decide ((x18.methods.length : Int) = (x21.methods.length : Int))))))) : Option Bool).bind fun v23 => (bif v23 then some (.ret false) else ((qcref1_SameWorld_l2 N x21 x18.methods 0).bind fun o => match o with | .ret r => some (.ret r) | .next () => qcref1_SameWorld_l1 N a1 rest15 (k12 + 1)))))

def qcref1_SameWorld_l4 (N : Nat) (a1 : Wd) (k55 : Nat) : List V → Nat → Option (Ctl Bool Unit)
  | [], k76 => some (.next ())
  | x82 :: rest79, k76 => ((nthO a1.heap (k55 : Int)).bind fun x85 => ((nthO x85.slots (k76 : Int)).bind fun x87 => (bif (!(eqAs (eV x82) (eV x87))) then some (.ret false) else qcref1_SameWorld_l4 N a1 k55 rest79 (k76 + 1))))

def qcref1_SameWorld_l3 (N : Nat) (a1 : Wd) : List Ob → Nat → Option (Ctl Bool Unit)
  | [], k55 => some (.next ())
  | x61 :: rest58, k55 => ((((nthO a1.heap (k55 : Int)).bind fun x67 => (bif (!decide (x61.cls = x67.cls)) then some (true) else ((nthO a1.heap (k55 : Int)).bind fun x71 => some ((!decide ((x61.slots.length : Int) = (x71.slots.length : Int))))))) : Option Bool).bind fun v64 => (bif v64 then some (.ret false) else ((qcref1_SameWorld_l4 N a1 k55 x61.slots 0).bind fun o => match o with | .ret r => some (.ret r) | .next () => qcref1_SameWorld_l3 N a1 rest58 (k55 + 1))))

def qcref1_SameWorld (N : Nat) (a0 : Wd) (a1 : Wd) : Option Bool :=
  (((bif (!decide (a0.epoch = a1.epoch)) then some (true) else (bif (!decide ((a0.classes.length : Int) = (a1.classes.length : Int))) then some (true) else some ((!decide ((a0.heap.length : Int) = (a1.heap.length : Int)))))) : Option Bool).bind fun v1 => (bif v1 then some false else ((qcref1_SameWorld_l1 N a1 a0.classes 0).bind fun o => match o with | .ret r => some r | .next () => ((qcref1_SameWorld_l3 N a1 a0.heap 0).bind fun o => match o with | .ret r => some r | .next () => some true))))

def slices_Clone_V (N : Nat) (a0 : List V) : Option (List V) := bif Nat.ble (a0.length * 16) 140737488355328 then some a0 else none

def value_Own_l1 (N : Nat) : List Ob → Nat → (List Ob) → Option ((List Ob))
  | [], k2, v3 => some (v3)
  | x11 :: rest8, k2, v3 => ((slices_Clone_V N x11.slots).bind fun r14 => (bif Nat.ble ((v3.length + [(⟨x11.cls, r14⟩ : Ob)].length) * 32) 140737488355328 then value_Own_l1 N rest8 (k2 + 1) (v3 ++ [(⟨x11.cls, r14⟩ : Ob)]) else none))

def value_Own (N : Nat) (a0 : (List Ob)) : Option (List Ob) :=
  ((value_Own_l1 N a0 0 ([] : List Ob)).bind fun v5 => some v5)

def slices_Clone_Ins (N : Nat) (a0 : List Ins) : Option (List Ins) := bif Nat.ble (a0.length * 48) 140737488355328 then some a0 else none

def class_Method (N : Nat) (a0 : Me) : Option Me :=
  ((slices_Clone_Ins N a0.code).bind fun r1 => some (⟨a0.name, a0.args, a0.temps, a0.prim, r1⟩ : Me))

def class_Own_l2 (N : Nat) : List Me → Nat → (List Me) → Option ((List Me))
  | [], k17, v18 => some (v18)
  | x26 :: rest23, k17, v18 => ((class_Method N x26).bind fun r29 => (bif Nat.ble ((v18.length + [r29].length) * 64) 140737488355328 then class_Own_l2 N rest23 (k17 + 1) (v18 ++ [r29]) else none))

def class_Own_l1 (N : Nat) : List Cl → Nat → (List Cl) → Option ((List Cl))
  | [], k4, v5 => some (v5)
  | x13 :: rest10, k4, v5 => ((class_Own_l2 N x13.methods 0 ([] : List Me)).bind fun v20 => (bif Nat.ble ((v5.length + [(⟨x13.name, x13.super, x13.slots, v20⟩ : Cl)].length) * 56) 140737488355328 then class_Own_l1 N rest10 (k4 + 1) (v5 ++ [(⟨x13.name, x13.super, x13.slots, v20⟩ : Cl)]) else none))

def class_Own (N : Nat) (a0 : Wd) : Option Wd :=
  ((value_Own N a0.heap).bind fun r1 => ((class_Own_l1 N a0.classes 0 ([] : List Cl)).bind fun v7 => some (⟨v7, r1, a0.epoch⟩ : Wd)))

def class_Name_l1 (N : Nat) (a0 : ByteArray) : Nat → Nat → Option (Ctl Bool Unit)
  | 0, k9 => some (.next ())
  | n14 + 1, k9 => ((((byO a0 (k9 : Int)).bind fun u21 => (bif decide ((u21.toNat : Int) ≤ (32 : Int)) then some (true) else ((byO a0 (k9 : Int)).bind fun u24 => some (decide ((126 : Int) < (u24.toNat : Int)))))) : Option Bool).bind fun v18 => (bif v18 then some (.ret false) else class_Name_l1 N a0 n14 (k9 + 1)))

def class_Name (N : Nat) (a0 : ByteArray) : Option Bool :=
  (((bif decide ((a0.size : Int) < (1 : Int)) then some (true) else some (decide ((12 : Int) < (a0.size : Int)))) : Option Bool).bind fun v1 => (bif v1 then some false else ((class_Name_l1 N a0 (((a0.size : Int) - ((0 : Nat) : Int)).toNat) 0).bind fun o => match o with | .ret r => some r | .next () => some true)))

def class_Slots_l1 (N : Nat) (a0 : Wd) : Nat → Int → Int → Int → Option (Int)
  | 0, _, _, _ => none
  | n13 + 1, v2, v3, v4 => (((bif decide ((0 : Int) ≤ v2) then (bif decide (v2 < (a0.classes.length : Int)) then some (decide (v4 ≤ (a0.classes.length : Int))) else some (false)) else some (false)) : Option Bool).bind fun v14 => (bif v14 then ((nthO a0.classes v2).bind fun x22 => ((nthO a0.classes v2).bind fun x24 => class_Slots_l1 N a0 n13 x24.super (wr (v3 + x22.slots)) (wr (v4 + (1 : Int))))) else some (v3)))

def class_Slots (N : Nat) (a0 : Wd) (a1 : Int) : Option Int :=
  ((class_Slots_l1 N a0 N a1 (0 : Int) (0 : Int)).bind fun v8 => some v8)

def slices_IndexFunc_api_Class_api_Class_c1_l1 (N : Nat) (g1 : (Cl → Option Bool)) : List Cl → Nat → Option (Ctl Int Unit)
  | [], k2 => some (.next ())
  | x8 :: rest5, k2 => ((g1 x8).bind fun r11 => (bif r11 then some (.ret (k2 : Int)) else slices_IndexFunc_api_Class_api_Class_c1_l1 N g1 rest5 (k2 + 1)))

def slices_IndexFunc_api_Class_api_Class_c1 (N : Nat) (a0 : (List Cl)) (g1 : Cl → Option Bool) : Option Int :=
  ((slices_IndexFunc_api_Class_api_Class_c1_l1 N g1 a0 0).bind fun o => match o with | .ret r => some r | .next () => some (-1 : Int))

def slices_ContainsFunc_api_Class_api_Class_c1 (N : Nat) (a0 : (List Cl)) (g1 : Cl → Option Bool) : Option Bool :=
  ((slices_IndexFunc_api_Class_api_Class_c1 N a0 g1).bind fun r1 => some (decide ((0 : Int) ≤ r1)))

def class_Make_1 (N : Nat) (a0 : Cl) (b0 : ByteArray) : Option Bool :=
  some (decide (a0.name = b0))

def class_New_1 (N : Nat) (a0 : Me) (a1 : Me) : Option Int :=
  ((class_order N a0 a1.name).bind fun r1 => some r1)
end Go.Proofs.Ytoceeiamcfdnlaa
