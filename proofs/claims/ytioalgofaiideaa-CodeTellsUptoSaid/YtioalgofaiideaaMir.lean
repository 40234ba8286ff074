/- Functions that mirror the program's. Printed by mir.py. -/
import Derived.Test.YtioalgofaiideaaHd
namespace Go.Proofs.Ytioalgofaiideaa
open Go.RowKit
set_option linter.unusedVariables false

def qcref1_Most_l2 (N : Nat) : List Ln → Nat → Int → Int → Int → Option ((Int × Int × Int))
  | [], k27, v28, v29, v30 => some ((v28, v29, v30))
  | x42 :: rest39, k27, v28, v29, v30 => (((bif decide (v29 < x42.found) then some (true) else (bif decide ((0 : Int) < v29) then (bif decide (x42.found = v29) then some (decide (x42.cls < v28)) else some (false)) else some (false))) : Option Bool).bind fun v45 => (((bif v45 then some ((x42.cls, x42.found)) else some ((v28, v29))) : Option (Int × Int)).bind fun (v51, v52) => qcref1_Most_l2 N rest39 (k27 + 1) v51 v52 (wr (v30 + x42.found))))

def qcref1_Most_l1 (N : Nat) (a1 : St) : List Tl → Nat → Int → Int → Int → Option ((Int × Int × Int))
  | [], k2, v3, v4, v5 => some ((v3, v4, v5))
  | x17 :: rest14, k2, v3, v4, v5 => (((bif (eqAs (eSt x17.site) (eSt a1)) then ((qcref1_Most_l2 N x17.classes 0 v3 v4 v5).bind fun (v34, v35, v36) => some ((v34, v35, v36))) else some ((v3, v4, v5))) : Option (Int × Int × Int)).bind fun (v20, v21, v22) => qcref1_Most_l1 N a1 rest14 (k2 + 1) v20 v21 v22)

def qcref1_Most (N : Nat) (a0 : (List Tl)) (a1 : St) : Option (Int × Int × Int) :=
  ((qcref1_Most_l1 N a1 a0 0 (-1 : Int) (0 : Int) (0 : Int)).bind fun (v9, v10, v11) => some (v9, v10, v11))

def tally_Most_l2 (N : Nat) : List Ln → Nat → Int → Int → Option ((Int × Int))
  | [], k23, v24, v25 => some ((v24, v25))
  | x35 :: rest32, k23, v24, v25 => (((bif decide (v25 < x35.found) then some (true) else (bif decide (x35.found = v25) then (bif decide ((0 : Int) < v25) then some (decide (x35.cls < v24)) else some (false)) else some (false))) : Option Bool).bind fun v38 => (((bif v38 then some ((x35.cls, x35.found)) else some ((v24, v25))) : Option (Int × Int)).bind fun (v44, v45) => tally_Most_l2 N rest32 (k23 + 1) v44 v45))

def tally_Most_l1 (N : Nat) (a1 : St) : List Tl → Nat → Int → Int → Option ((Int × Int))
  | [], k2, v3, v4 => some ((v3, v4))
  | x14 :: rest11, k2, v3, v4 => (((bif (!(eqAs (eSt x14.site) (eSt a1))) then some ((v3, v4)) else ((tally_Most_l2 N x14.classes 0 v3 v4).bind fun (v28, v29) => some ((v28, v29)))) : Option (Int × Int)).bind fun (v17, v18) => tally_Most_l1 N a1 rest11 (k2 + 1) v17 v18)

def tally_Most (N : Nat) (a0 : (List Tl)) (a1 : St) : Option (Int × Int) :=
  ((tally_Most_l1 N a1 a0 0 (-1 : Int) (0 : Int)).bind fun (v7, v8) => some (v7, v8))

def slices_Clone_Ln (N : Nat) (a0 : List Ln) : Option (List Ln) := bif Nat.ble (a0.length * 16) 140737488355328 then some a0 else none

def tally_Own_l1 (N : Nat) : List Tl → Nat → (List Tl) → Option ((List Tl))
  | [], k2, v3 => some (v3)
  | x11 :: rest8, k2, v3 => ((slices_Clone_Ln N x11.classes).bind fun r14 => (bif Nat.ble ((v3.length + [(⟨x11.site, r14⟩ : Tl)].length) * 56) 140737488355328 then tally_Own_l1 N rest8 (k2 + 1) (v3 ++ [(⟨x11.site, r14⟩ : Tl)]) else none))

def tally_Own (N : Nat) (a0 : (List Tl)) : Option (List Tl) :=
  ((tally_Own_l1 N a0 0 ([] : List Tl)).bind fun v5 => some v5)

def slices_IndexFunc_api_Tally_api_Tally_c1_l1 (N : Nat) (g1 : (Tl → Option Bool)) : List Tl → Nat → Option (Ctl Int Unit)
  | [], k2 => some (.next ())
  | x8 :: rest5, k2 => ((g1 x8).bind fun r11 => (bif r11 then some (.ret (k2 : Int)) else slices_IndexFunc_api_Tally_api_Tally_c1_l1 N g1 rest5 (k2 + 1)))

def slices_IndexFunc_api_Tally_api_Tally_c1 (N : Nat) (a0 : (List Tl)) (g1 : Tl → Option Bool) : Option Int :=
  ((slices_IndexFunc_api_Tally_api_Tally_c1_l1 N g1 a0 0).bind fun o => match o with | .ret r => some r | .next () => some (-1 : Int))

def tally_Add_1 (N : Nat) (a0 : Tl) (b0 : St) : Option Bool :=
  some (eqAs (eSt a0.site) (eSt b0))

def slices_IndexFunc_api_Line_api_Line_c1_l1 (N : Nat) (g1 : (Ln → Option Bool)) : List Ln → Nat → Option (Ctl Int Unit)
  | [], k2 => some (.next ())
  | x8 :: rest5, k2 => ((g1 x8).bind fun r11 => (bif r11 then some (.ret (k2 : Int)) else slices_IndexFunc_api_Line_api_Line_c1_l1 N g1 rest5 (k2 + 1)))

def slices_IndexFunc_api_Line_api_Line_c1 (N : Nat) (a0 : (List Ln)) (g1 : Ln → Option Bool) : Option Int :=
  ((slices_IndexFunc_api_Line_api_Line_c1_l1 N g1 a0 0).bind fun o => match o with | .ret r => some r | .next () => some (-1 : Int))

def tally_Add_2 (N : Nat) (a0 : Ln) (b0 : Int) : Option Bool :=
  some (decide (a0.cls = b0))

def addL (c : Int) (l : List Ln) : List Ln := let q := ixd (fun x => decide (x.cls = c)) ⟨c, 0⟩ l; q.1.modify q.2 fun x => ⟨x.cls, wr (x.found + 1)⟩
def addT (s : St) (c : Int) (l : List Tl) : List Tl := let q := ixd (fun t => decide (t.site = s)) ⟨s, []⟩ l; q.1.modify q.2 fun t => ⟨t.site, addL c t.classes⟩
def tally_Add (N : Nat) (a0 : List Tl) (a1 : St) (a2 : Int) : Option (List Tl) :=
  bif (Nat.ble ((a0.length + 1) * 56) 140737488355328 && a0.all fun t => Nat.ble ((t.classes.length + 1) * 16) 140737488355328) then some (addT a1 a2 a0) else none

def qcref1_Count_l2 (N : Nat) (a2 : Int) : List Ln → Nat → (List Ln) → Bool → Option (((List Ln) × Bool))
  | [], k27, v28, v29 => some ((v28, v29))
  | x39 :: rest36, k27, v28, v29 => (((bif decide (x39.cls = a2) then some ((!v29)) else some (false)) : Option Bool).bind fun v42 => (((bif v42 then some ((true, (⟨x39.cls, (wr (x39.found + (1 : Int)))⟩ : Ln))) else some ((v29, x39))) : Option (Bool × Ln)).bind fun (v46, v47) => (bif Nat.ble ((v28.length + [v47].length) * 16) 140737488355328 then qcref1_Count_l2 N a2 rest36 (k27 + 1) (v28 ++ [v47]) v46 else none)))

def qcref1_Count_l1 (N : Nat) (a1 : St) (a2 : Int) : List Tl → Nat → (List Tl) → Bool → Option (((List Tl) × Bool))
  | [], k2, v3, v4 => some ((v3, v4))
  | x14 :: rest11, k2, v3, v4 => (((bif (eqAs (eSt x14.site) (eSt a1)) then some ((!v4)) else some (false)) : Option Bool).bind fun v17 => (((bif v17 then ((qcref1_Count_l2 N a2 x14.classes 0 ([] : List Ln) false).bind fun (v32, v33) => (((bif (!v33) then (bif Nat.ble ((v32.length + [(⟨a2, (1 : Int)⟩ : Ln)].length) * 16) 140737488355328 then some ((v32 ++ [(⟨a2, (1 : Int)⟩ : Ln)])) else none) else some (v32)) : Option (List Ln)).bind fun v52 => some ((true, (⟨x14.site, v52⟩ : Tl))))) else some ((v4, x14))) : Option (Bool × Tl)).bind fun (v21, v22) => (bif Nat.ble ((v3.length + [v22].length) * 56) 140737488355328 then qcref1_Count_l1 N a1 a2 rest11 (k2 + 1) (v3 ++ [v22]) v21 else none)))

def qcref1_Count (N : Nat) (a0 : (List Tl)) (a1 : St) (a2 : Int) : Option (List Tl) :=
  ((qcref1_Count_l1 N a1 a2 a0 0 ([] : List Tl) false).bind fun (v7, v8) => (((bif (!v8) then (bif Nat.ble ((v7.length + [(⟨a1, [(⟨a2, (1 : Int)⟩ : Ln)]⟩ : Tl)].length) * 56) 140737488355328 then some ((v7 ++ [(⟨a1, [(⟨a2, (1 : Int)⟩ : Ln)]⟩ : Tl)])) else none) else some (v7)) : Option (List Tl)).bind fun v58 => some v58))

def qcref1_SameLines_l1 (N : Nat) (a1 : (List Ln)) : List Ln → Nat → Option (Ctl Bool Unit)
  | [], k5 => some (.next ())
  | x11 :: rest8, k5 => ((nthO a1 (k5 : Int)).bind fun x14 => (bif (!(eqAs (eLn x11) (eLn x14))) then some (.ret false) else qcref1_SameLines_l1 N a1 rest8 (k5 + 1)))

def qcref1_SameLines (N : Nat) (a0 : (List Ln)) (a1 : (List Ln)) : Option Bool :=
  (bif (!decide ((a0.length : Int) = (a1.length : Int))) then some false else ((qcref1_SameLines_l1 N a1 a0 0).bind fun o => match o with | .ret r => some r | .next () => some true))

def qcref1_SameTallies_l1 (N : Nat) (a1 : (List Tl)) : List Tl → Nat → Option (Ctl Bool Unit)
  | [], k5 => some (.next ())
  | x11 :: rest8, k5 => ((((nthO a1 (k5 : Int)).bind fun x17 => (bif (!(eqAs (eSt x11.site) (eSt x17.site))) then some (true) else ((nthO a1 (k5 : Int)).bind fun x20 => ((qcref1_SameLines N x11.classes x20.classes).bind fun r22 => some ((!r22)))))) : Option Bool).bind fun v14 => (bif v14 then some (.ret false) else qcref1_SameTallies_l1 N a1 rest8 (k5 + 1)))

def qcref1_SameTallies (N : Nat) (a0 : (List Tl)) (a1 : (List Tl)) : Option Bool :=
  (bif (!decide ((a0.length : Int) = (a1.length : Int))) then some false else ((qcref1_SameTallies_l1 N a1 a0 0).bind fun o => match o with | .ret r => some r | .next () => some true))

def tally_All_l2 (N : Nat) : List Ln → Nat → Int → Option (Int)
  | [], k19, v20 => some (v20)
  | x28 :: rest25, k19, v20 => tally_All_l2 N rest25 (k19 + 1) (wr (v20 + x28.found))

def tally_All_l1 (N : Nat) (a1 : St) : List Tl → Nat → Int → Option (Int)
  | [], k2, v3 => some (v3)
  | x11 :: rest8, k2, v3 => (((bif (!(eqAs (eSt x11.site) (eSt a1))) then some (v3) else ((tally_All_l2 N x11.classes 0 v3).bind fun v22 => some (v22))) : Option Int).bind fun v14 => tally_All_l1 N a1 rest8 (k2 + 1) v14)

def tally_All (N : Nat) (a0 : (List Tl)) (a1 : St) : Option Int :=
  ((tally_All_l1 N a1 a0 0 (0 : Int)).bind fun v5 => some v5)

def qclaw7_TallyTells_l2 (N : Nat) : List Ln → Nat → Option (Ctl Bool Unit)
  | [], k12 => some (.next ())
  | x18 :: rest15, k12 => (((bif decide (x18.found < (0 : Int)) then some (true) else some (decide ((1000000 : Int) < x18.found))) : Option Bool).bind fun v21 => (bif v21 then some (.ret true) else qclaw7_TallyTells_l2 N rest15 (k12 + 1)))

def qclaw7_TallyTells_l1 (N : Nat) : List Tl → Nat → Option (Ctl Bool Unit)
  | [], k2 => some (.next ())
  | x8 :: rest5, k2 => ((qclaw7_TallyTells_l2 N x8.classes 0).bind fun o => match o with | .ret r => some (.ret r) | .next () => qclaw7_TallyTells_l1 N rest5 (k2 + 1))

def qclaw7_TallyTells (N : Nat) (a0 : (List Tl)) (a1 : St) (a2 : Int) : Option Bool :=
  ((qclaw7_TallyTells_l1 N a0 0).bind fun o => match o with | .ret r => some r | .next () => ((qcref1_Most N a0 a1).bind fun r26 => ((tally_Most N a0 a1).bind fun r28 => ((((tally_Add N a0 a1 a2).bind fun r33 => ((qcref1_Count N a0 a1 a2).bind fun r35 => ((qcref1_SameTallies N r33 r35).bind fun r37 => (bif r37 then ((tally_Own N a0).bind fun r40 => ((qcref1_SameTallies N r40 a0).bind fun r42 => (bif r42 then (bif decide (r28.1 = r26.1) then (bif decide (r28.2 = r26.2.1) then ((tally_All N a0 a1).bind fun r47 => some (decide (r47 = r26.2.2))) else some (false)) else some (false)) else some (false)))) else some (false))))) : Option Bool).bind fun v30 => some v30))))

def qclaw7_alive (N : Nat) : Option Bool :=
  ((tally_Add N [] (⟨(4 : Int), (⟨#[109]⟩ : ByteArray), (2 : Int)⟩ : St) (5 : Int)).bind fun r1 => ((tally_Add N r1 (⟨(4 : Int), (⟨#[109]⟩ : ByteArray), (2 : Int)⟩ : St) (4 : Int)).bind fun r3 => ((tally_Add N r3 (⟨(4 : Int), (⟨#[109]⟩ : ByteArray), (2 : Int)⟩ : St) (4 : Int)).bind fun r5 => ((tally_Most N r5 (⟨(4 : Int), (⟨#[109]⟩ : ByteArray), (2 : Int)⟩ : St)).bind fun r7 => (((bif decide ((r5.length : Int) = (1 : Int)) then ((tally_All N r5 (⟨(4 : Int), (⟨#[109]⟩ : ByteArray), (2 : Int)⟩ : St)).bind fun r14 => (bif decide (r14 = (3 : Int)) then (bif decide (r7.1 = (4 : Int)) then (bif decide (r7.2 = (2 : Int)) then ((tally_Own N r5).bind fun r19 => some (decide ((r19.length : Int) = (1 : Int)))) else some (false)) else some (false)) else some (false))) else some (false)) : Option Bool).bind fun v9 => some v9)))))

def qclaw7_TallyTurned_l1 (N : Nat) (a0 : (List St)) (a1 : (List Int)) (a2 : St) : Nat → Nat → (List Tl) → (List Tl) → Int → Option (Ctl Bool ((List Tl) × (List Tl) × Int))
  | 0, k6, v7, v8, v9 => some (.next (v7, v8, v9))
  | n20 + 1, k6, v7, v8, v9 => ((nthO a1 (k6 : Int)).bind fun x26 => (bif decide (x26 < (0 : Int)) then some (.ret true) else ((nthO a0 (k6 : Int)).bind fun x29 => ((nthO a1 (k6 : Int)).bind fun x31 => ((tally_Add N v7 x29 x31).bind fun r33 => ((nthO a0 (wr ((wr ((min (a0.length : Int) (a1.length : Int)) - (1 : Int))) - (k6 : Int)))).bind fun x35 => ((nthO a1 (wr ((wr ((min (a0.length : Int) (a1.length : Int)) - (1 : Int))) - (k6 : Int)))).bind fun x37 => ((tally_Add N v8 x35 x37).bind fun r39 => ((nthO a0 (k6 : Int)).bind fun x41 => (((bif (eqAs (eSt x41) (eSt a2)) then some ((wr (v9 + (1 : Int)))) else some (v9)) : Option Int).bind fun v43 => qclaw7_TallyTurned_l1 N a0 a1 a2 n20 (k6 + 1) r33 r39 v43))))))))))

def qclaw7_TallyTurned (N : Nat) (a0 : (List St)) (a1 : (List Int)) (a2 : St) : Option Bool :=
  ((qclaw7_alive N).bind fun r1 => (bif (!r1) then some false else ((qclaw7_TallyTurned_l1 N a0 a1 a2 (((min (a0.length : Int) (a1.length : Int)) - ((0 : Nat) : Int)).toNat) 0 ([] : List Tl) ([] : List Tl) (0 : Int)).bind fun o => match o with | .ret r => some r | .next (v13, v14, v15) => ((tally_Most N v13 a2).bind fun r47 => ((tally_Most N v14 a2).bind fun r49 => ((((tally_All N v13 a2).bind fun r54 => (bif decide (r54 = v15) then ((tally_All N v14 a2).bind fun r57 => (bif decide (r57 = v15) then (bif decide (r47.1 = r49.1) then (bif decide (r47.2 = r49.2) then (bif decide ((0 : Int) ≤ r47.2) then some (decide (r47.2 ≤ v15)) else some (false)) else some (false)) else some (false)) else some (false))) else some (false))) : Option Bool).bind fun v51 => some v51))))))

def value_Wrong (N : Nat) (a0 : V) (a1 : Int) : Option Int :=
  (((bif decide (a0.k = (0 : Int)) then some (decide (a0.k = (0 : Int))) else (((bif decide (a0.k = (1 : Int)) then some (decide (a0.k = (1 : Int))) else some (decide (a0.k = (2 : Int)))) : Option Bool).bind fun v5 => some (v5))) : Option Bool).bind fun v1 => (((bif v1 then (bif (!decide (a0.n = (0 : Int))) then some (.ret (2 : Int)) else some (.next ())) else (((bif decide (a0.k = (3 : Int)) then (((bif decide (a0.n < (-1073741824 : Int)) then some (true) else some (decide ((1073741824 : Int) < a0.n))) : Option Bool).bind fun v16 => (bif v16 then some (.ret (3 : Int)) else some (.next ()))) else (bif decide (a0.k = (4 : Int)) then (((bif decide (a0.n < (0 : Int)) then some (true) else some (decide (a1 ≤ a0.n))) : Option Bool).bind fun v22 => (bif v22 then some (.ret (6 : Int)) else some (.next ()))) else some (.ret (1 : Int)))) : Option (Ctl Int Unit)).bind fun o => match o with | .ret r => some (.ret r) | .next () => some (.next ()))) : Option (Ctl Int Unit)).bind fun o => match o with | .ret r => some r | .next () => some (0 : Int)))

def qcref1_Wrong (N : Nat) (a0 : V) (a1 : Int) : Option Int :=
  (((bif decide (a0.k < (0 : Int)) then some (true) else some (decide ((4 : Int) < a0.k))) : Option Bool).bind fun v1 => (bif v1 then some (1 : Int) else (((bif decide (a0.k < (3 : Int)) then some ((!decide (a0.n = (0 : Int)))) else some (false)) : Option Bool).bind fun v6 => (bif v6 then some (2 : Int) else (((bif decide (a0.k = (3 : Int)) then (bif decide (a0.n < (-1073741824 : Int)) then some (true) else some (decide ((1073741824 : Int) < a0.n))) else some (false)) : Option Bool).bind fun v11 => (bif v11 then some (3 : Int) else (((bif decide (a0.k = (4 : Int)) then (bif decide (a0.n < (0 : Int)) then some (true) else some (decide (a1 ≤ a0.n))) else some (false)) : Option Bool).bind fun v17 => (bif v17 then some (6 : Int) else some (0 : Int)))))))))

def value_Class (N : Nat) (a0 : (List Ob)) (a1 : V) : Option Int :=
  (bif decide (a1.k = (0 : Int)) then some (1 : Int) else (((bif decide (a1.k = (1 : Int)) then some (decide (a1.k = (1 : Int))) else some (decide (a1.k = (2 : Int)))) : Option Bool).bind fun v2 => (bif v2 then some (2 : Int) else (bif decide (a1.k = (3 : Int)) then some (3 : Int) else (((bif decide (a1.k = (4 : Int)) then (bif decide ((0 : Int) ≤ a1.n) then some (decide (a1.n < (a0.length : Int))) else some (false)) else some (false)) : Option Bool).bind fun v8 => (bif v8 then ((nthO a0 a1.n).bind fun x15 => some x15.cls) else some (0 : Int)))))))

def qcref1_Class (N : Nat) (a0 : (List Ob)) (a1 : V) : Option Int :=
  (((bif decide (a1.k = (4 : Int)) then (bif decide ((0 : Int) ≤ a1.n) then some (decide (a1.n < (a0.length : Int))) else some (false)) else some (false)) : Option Bool).bind fun v1 => (bif v1 then ((nthO a0 a1.n).bind fun x8 => some x8.cls) else (((bif decide (a1.k < (0 : Int)) then some (true) else some (decide ((3 : Int) < a1.k))) : Option Bool).bind fun v10 => (bif v10 then some (0 : Int) else ((nthO [(1 : Int), (2 : Int), (2 : Int), (3 : Int)] a1.k).bind fun x15 => some x15)))))

def value_Slot (N : Nat) (a0 : (List Ob)) (a1 : V) (a2 : Int) : Option V :=
  (((bif (!decide (a1.k = (4 : Int))) then some (true) else (bif decide (a1.n < (0 : Int)) then some (true) else (bif decide ((a0.length : Int) ≤ a1.n) then some (true) else (bif decide (a2 < (0 : Int)) then some (true) else ((nthO a0 a1.n).bind fun x9 => some (decide ((x9.slots.length : Int) ≤ a2))))))) : Option Bool).bind fun v1 => (bif v1 then some (⟨(0 : Int), (0 : Int)⟩ : V) else ((nthO a0 a1.n).bind fun x13 => ((nthO x13.slots a2).bind fun x15 => some x15))))

def qcref1_Slot_l1 (N : Nat) (a2 : Int) : List V → Nat → Option (Ctl V Unit)
  | [], k13 => some (.next ())
  | x19 :: rest16, k13 => (bif decide ((k13 : Int) = a2) then some (.ret x19) else qcref1_Slot_l1 N a2 rest16 (k13 + 1))

def qcref1_Slot (N : Nat) (a0 : (List Ob)) (a1 : V) (a2 : Int) : Option V :=
  (((bif decide (a1.k = (4 : Int)) then (bif decide ((0 : Int) ≤ a1.n) then some (decide (a1.n < (a0.length : Int))) else some (false)) else some (false)) : Option Bool).bind fun v1 => (((bif v1 then ((nthO a0 a1.n).bind fun x10 => ((qcref1_Slot_l1 N a2 x10.slots 0).bind fun o => match o with | .ret r => some (.ret r) | .next () => some (.next ()))) else some (.next ())) : Option (Ctl V Unit)).bind fun o => match o with | .ret r => some r | .next () => some (⟨(0 : Int), (0 : Int)⟩ : V)))

def value_Bool (N : Nat) (a0 : Bool) : Option V :=
  (bif a0 then some (⟨(2 : Int), (0 : Int)⟩ : V) else some (⟨(1 : Int), (0 : Int)⟩ : V))

def qcref1_Bool (N : Nat) (a0 : Bool) : Option V :=
  (bif a0 then some (⟨(2 : Int), (0 : Int)⟩ : V) else some (⟨(1 : Int), (0 : Int)⟩ : V))

def slices_Clone_V (N : Nat) (a0 : List V) : Option (List V) := bif Nat.ble (a0.length * 16) 140737488355328 then some a0 else none

def value_Own_l1 (N : Nat) : List Ob → Nat → (List Ob) → Option ((List Ob))
  | [], k2, v3 => some (v3)
  | x11 :: rest8, k2, v3 => ((slices_Clone_V N x11.slots).bind fun r14 => (bif Nat.ble ((v3.length + [(⟨x11.cls, r14⟩ : Ob)].length) * 32) 140737488355328 then value_Own_l1 N rest8 (k2 + 1) (v3 ++ [(⟨x11.cls, r14⟩ : Ob)]) else none))

def value_Own (N : Nat) (a0 : (List Ob)) : Option (List Ob) :=
  ((value_Own_l1 N a0 0 ([] : List Ob)).bind fun v5 => some v5)

def qcref1_SameCode_l1 (N : Nat) (a1 : (List Ins)) : List Ins → Nat → Option (Ctl Bool Unit)
  | [], k5 => some (.next ())
  | x11 :: rest8, k5 => ((nthO a1 (k5 : Int)).bind fun x14 => (bif (!(eqAs (eIns x11) (eIns x14))) then some (.ret false) else qcref1_SameCode_l1 N a1 rest8 (k5 + 1)))

def qcref1_SameCode (N : Nat) (a0 : (List Ins)) (a1 : (List Ins)) : Option Bool :=
  (bif (!decide ((a0.length : Int) = (a1.length : Int))) then some false else ((qcref1_SameCode_l1 N a1 a0 0).bind fun o => match o with | .ret r => some r | .next () => some true))

def qcref1_SameWorld_l2 (N : Nat) (x21 : Cl) : List Me → Nat → Option (Ctl Bool Unit)
  | [], k33 => some (.next ())
  | x39 :: rest36, k33 => ((nthO x21.methods (k33 : Int)).bind fun x42 => (((bif (!decide (x39.name = x42.name)) then some (true) else (bif (!decide (x39.args = x42.args)) then some (true) else (bif (!decide (x39.temps = x42.temps)) then some (true) else (bif (!decide (x39.prim = x42.prim)) then some (true) else ((qcref1_SameCode N x39.code x42.code).bind fun r51 => some ((!r51))))))) : Option Bool).bind fun v44 => (bif v44 then some (.ret false) else qcref1_SameWorld_l2 N x21 rest36 (k33 + 1))))

def qcref1_SameWorld_l1 (N : Nat) (a1 : Wd) : List Cl → Nat → Option (Ctl Bool Unit)
  | [], k12 => some (.next ())
  | x18 :: rest15, k12 => ((nthO a1.classes (k12 : Int)).bind fun x21 => (((bif (!decide (x18.name = x21.name)) then some (true) else (bif (!decide (x18.super = x21.super)) then some (true) else (bif (!decide (x18.slots = x21.slots)) then some (true) else some ((!decide ((x18.methods.length : Int) = (x21.methods.length : Int))))))) : Option Bool).bind fun v23 => (bif v23 then some (.ret false) else ((qcref1_SameWorld_l2 N x21 x18.methods 0).bind fun o => match o with | .ret r => some (.ret r) | .next () => qcref1_SameWorld_l1 N a1 rest15 (k12 + 1)))))

def qcref1_SameWorld_l4 (N : Nat) (a1 : Wd) (k55 : Nat) : List V → Nat → Option (Ctl Bool Unit)
  | [], k76 => some (.next ())
  | x82 :: rest79, k76 => ((nthO a1.heap (k55 : Int)).bind fun x85 => ((nthO x85.slots (k76 : Int)).bind fun x87 => (bif (!(eqAs (eV x82) (eV x87))) then some (.ret false) else qcref1_SameWorld_l4 N a1 k55 rest79 (k76 + 1))))

def qcref1_SameWorld_l3 (N : Nat) (a1 : Wd) : List Ob → Nat → Option (Ctl Bool Unit)
  | [], k55 => some (.next ())
  | x61 :: rest58, k55 => ((((nthO a1.heap (k55 : Int)).bind fun x67 => (bif (!decide (x61.cls = x67.cls)) then some (true) else ((nthO a1.heap (k55 : Int)).bind fun x71 => some ((!decide ((x61.slots.length : Int) = (x71.slots.length : Int))))))) : Option Bool).bind fun v64 => (bif v64 then some (.ret false) else ((qcref1_SameWorld_l4 N a1 k55 x61.slots 0).bind fun o => match o with | .ret r => some (.ret r) | .next () => qcref1_SameWorld_l3 N a1 rest58 (k55 + 1))))

def qcref1_SameWorld (N : Nat) (a0 : Wd) (a1 : Wd) : Option Bool :=
  (((bif (!decide (a0.epoch = a1.epoch)) then some (true) else (bif (!decide ((a0.classes.length : Int) = (a1.classes.length : Int))) then some (true) else some ((!decide ((a0.heap.length : Int) = (a1.heap.length : Int)))))) : Option Bool).bind fun v1 => (bif v1 then some false else ((qcref1_SameWorld_l1 N a1 a0.classes 0).bind fun o => match o with | .ret r => some r | .next () => ((qcref1_SameWorld_l3 N a1 a0.heap 0).bind fun o => match o with | .ret r => some r | .next () => some true))))

def value_New (N : Nat) (a0 : (List Ob)) (a1 : Int) (a2 : Int) : Option ((List Ob) × V × Int) :=
  (bif decide ((60 : Int) ≤ (a0.length : Int)) then some (([] : List Ob), (⟨(0 : Int), (0 : Int)⟩ : V), (15 : Int)) else ((value_Own N a0).bind fun r3 => (bif (decide (0 ≤ (max a2 (0 : Int))) && decide ((max a2 (0 : Int)) ≤ 140737488355328) && decide ((max a2 (0 : Int)) * 16 ≤ 140737488355328)) then (bif Nat.ble ((r3.length + [(⟨a1, (List.replicate (max a2 (0 : Int)).toNat (⟨(0 : Int), (0 : Int)⟩ : V))⟩ : Ob)].length) * 32) 140737488355328 then some ((r3 ++ [(⟨a1, (List.replicate (max a2 (0 : Int)).toNat (⟨(0 : Int), (0 : Int)⟩ : V))⟩ : Ob)]), (⟨(4 : Int), (a0.length : Int)⟩ : V), (0 : Int)) else none) else none)))

def value_Prim_1 (N : Nat) (a0 : Int) : Option V :=
  (bif (decide ((1073741825 : Int) ≠ 0) && decide (InR (a0.tmod (1073741825 : Int)))) then some (⟨(3 : Int), (a0.tmod (1073741825 : Int))⟩ : V) else none)

def value_Prim (N : Nat) (a0 : Int) (a1 : V) (a2 : V) : Option (V × Int) :=
  (((bif (!decide (a1.k = (3 : Int))) then some (true) else some ((!decide (a2.k = (3 : Int))))) : Option Bool).bind fun v1 => (bif v1 then some ((⟨(0 : Int), (0 : Int)⟩ : V), (12 : Int)) else (bif decide (a0 = (1 : Int)) then ((value_Prim_1 N (wr (a1.n + a2.n))).bind fun r7 => some (r7, (0 : Int))) else (bif decide (a0 = (2 : Int)) then ((value_Prim_1 N (wr (a1.n - a2.n))).bind fun r10 => some (r10, (0 : Int))) else (bif decide (a0 = (3 : Int)) then ((value_Prim_1 N (wr (a1.n * a2.n))).bind fun r13 => some (r13, (0 : Int))) else (bif decide (a0 = (4 : Int)) then ((value_Bool N (decide (a1.n < a2.n))).bind fun r16 => some (r16, (0 : Int))) else (bif decide (a0 = (5 : Int)) then ((value_Bool N (decide (a1.n = a2.n))).bind fun r19 => some (r19, (0 : Int))) else some ((⟨(0 : Int), (0 : Int)⟩ : V), (1 : Int)))))))))

def qcref1_Prim (N : Nat) (a0 : Int) (a1 : V) (a2 : V) : Option (V × Int) :=
  (((bif (!decide (a1.k = (3 : Int))) then some (true) else some ((!decide (a2.k = (3 : Int))))) : Option Bool).bind fun v1 => (bif v1 then some ((⟨(0 : Int), (0 : Int)⟩ : V), (12 : Int)) else (((bif decide (a0 = (1 : Int)) then some (.next (wr (a1.n + a2.n))) else (((bif decide (a0 = (2 : Int)) then some (.next (wr (a1.n - a2.n))) else (bif decide (a0 = (3 : Int)) then some (.next (wr (a1.n * a2.n))) else (bif decide (a0 = (4 : Int)) then ((qcref1_Bool N (decide (a1.n < a2.n))).bind fun r16 => some (.ret (r16, (0 : Int)))) else (bif decide (a0 = (5 : Int)) then ((qcref1_Bool N (decide (a1.n = a2.n))).bind fun r19 => some (.ret (r19, (0 : Int)))) else some (.ret ((⟨(0 : Int), (0 : Int)⟩ : V), (1 : Int))))))) : Option (Ctl (V × Int) Int)).bind fun o => match o with | .ret r => some (.ret r) | .next v10 => some (.next v10))) : Option (Ctl (V × Int) Int)).bind fun o => match o with | .ret r => some r | .next v6 => (bif decide ((0 : Int) ≤ v6) then (bif (decide ((1073741825 : Int) ≠ 0) && decide (InR (v6.tdiv (1073741825 : Int)))) then some ((⟨(3 : Int), (wr (v6 - (wr ((v6.tdiv (1073741825 : Int)) * (1073741825 : Int)))))⟩ : V), (0 : Int)) else none) else (bif decide (InR (-v6)) then (bif (decide ((1073741825 : Int) ≠ 0) && decide (InR ((-v6).tdiv (1073741825 : Int)))) then some ((⟨(3 : Int), (wr (v6 + (wr (((-v6).tdiv (1073741825 : Int)) * (1073741825 : Int)))))⟩ : V), (0 : Int)) else none) else none)))))

def qclaw1_ValueTells (N : Nat) (a0 : (List Ob)) (a1 : V) (a2 : Int) (a3 : Int) (a4 : Int) (a5 : Int) (a6 : V) (a7 : V) : Option Bool :=
  ((((value_Wrong N a1 a2).bind fun r4 => ((qcref1_Wrong N a1 a2).bind fun r6 => (bif (!decide (r4 = r6)) then some (true) else ((value_Class N a0 a1).bind fun r9 => ((qcref1_Class N a0 a1).bind fun r11 => (bif (!decide (r9 = r11)) then some (true) else ((value_Slot N a0 a1 a2).bind fun r14 => ((qcref1_Slot N a0 a1 a2).bind fun r16 => (bif (!(eqAs (eV r14) (eV r16))) then some (true) else ((value_Bool N (decide ((0 : Int) < a2))).bind fun r19 => ((qcref1_Bool N (decide ((0 : Int) < a2))).bind fun r21 => (bif (!(eqAs (eV r19) (eV r21))) then some (true) else ((value_Own N a0).bind fun r24 => ((qcref1_SameWorld N (⟨[], r24, (0 : Int)⟩ : Wd) (⟨[], a0, (0 : Int)⟩ : Wd)).bind fun r26 => some ((!r26)))))))))))))))) : Option Bool).bind fun v1 => (bif v1 then some false else (((bif decide ((0 : Int) ≤ a4) then some (decide (a4 ≤ (100 : Int))) else some (false)) : Option Bool).bind fun v29 => (((bif v29 then ((value_New N a0 a3 a4).bind fun r36 => (((bif decide ((60 : Int) ≤ (a0.length : Int)) then (((bif (!decide (r36.2.2 = (15 : Int))) then some (true) else (bif decide ((0 : Int) < (r36.1.length : Int)) then some (true) else some ((!(eqAs (eV r36.2.1) [.int (0 : Int), .int (0 : Int)]))))) : Option Bool).bind fun v42 => (bif v42 then some (.ret false) else some (.next ()))) else (((bif (!decide (r36.2.2 = (0 : Int))) then some (true) else (bif (!(eqAs (eV r36.2.1) [.int (4 : Int), .int (a0.length : Int)])) then some (true) else (bif Nat.ble ((([] : List Ob).length + a0.length) * 32) 140737488355328 then (bif (decide (0 ≤ a4) && decide (a4 ≤ 140737488355328) && decide (a4 * 16 ≤ 140737488355328)) then (bif Nat.ble (((([] : List Ob) ++ a0).length + [(⟨a3, (List.replicate a4.toNat (⟨(0 : Int), (0 : Int)⟩ : V))⟩ : Ob)].length) * 32) 140737488355328 then ((qcref1_SameWorld N (⟨[], r36.1, (0 : Int)⟩ : Wd) (⟨[], ((([] : List Ob) ++ a0) ++ [(⟨a3, (List.replicate a4.toNat (⟨(0 : Int), (0 : Int)⟩ : V))⟩ : Ob)]), (0 : Int)⟩ : Wd)).bind fun r58 => some ((!r58))) else none) else none) else none))) : Option Bool).bind fun v49 => (bif v49 then some (.ret false) else some (.next ())))) : Option (Ctl Bool Unit)).bind fun o => match o with | .ret r => some (.ret r) | .next () => some (.next ()))) else some (.next ())) : Option (Ctl Bool Unit)).bind fun o => match o with | .ret r => some r | .next () => ((((qcref1_Wrong N a6 (1000 : Int)).bind fun r64 => (bif (!decide (r64 = (0 : Int))) then some (true) else ((qcref1_Wrong N a7 (1000 : Int)).bind fun r67 => some ((!decide (r67 = (0 : Int))))))) : Option Bool).bind fun v61 => (bif v61 then some true else ((value_Prim N a5 a6 a7).bind fun r70 => ((qcref1_Prim N a5 a6 a7).bind fun r72 => (((bif decide (r70.2 = r72.2) then some ((eqAs (eV r70.1) (eV r72.1))) else some (false)) : Option Bool).bind fun v74 => some v74)))))))))

def qclaw1_num (N : Nat) (a0 : Int) : Option V :=
  some (⟨(3 : Int), a0⟩ : V)

def qclaw1_alive (N : Nat) : Option Bool :=
  ((value_New N [] (5 : Int) (2 : Int)).bind fun r1 => ((qclaw1_num N (2 : Int)).bind fun r3 => ((qclaw1_num N (3 : Int)).bind fun r5 => ((value_Prim N (1 : Int) r3 r5).bind fun r7 => (((bif decide (r1.2.2 = (0 : Int)) then (bif decide (r7.2 = (0 : Int)) then (bif decide ((r1.1.length : Int) = (1 : Int)) then (bif (eqAs (eV r1.2.1) [.int (4 : Int), .int (0 : Int)]) then ((qclaw1_num N (5 : Int)).bind fun r17 => (bif (eqAs (eV r7.1) (eV r17)) then ((value_Class N r1.1 r1.2.1).bind fun r20 => (bif decide (r20 = (5 : Int)) then ((value_Slot N r1.1 r1.2.1 (1 : Int)).bind fun r23 => (bif (eqAs (eV r23) [.int (0 : Int), .int (0 : Int)]) then ((value_Bool N true).bind fun r26 => (bif decide (r26.k = (2 : Int)) then ((value_Wrong N r1.2.1 (0 : Int)).bind fun r29 => (bif decide (r29 = (6 : Int)) then ((value_Own N r1.1).bind fun r32 => some (decide ((r32.length : Int) = (1 : Int)))) else some (false))) else some (false))) else some (false))) else some (false))) else some (false))) else some (false)) else some (false)) else some (false)) else some (false)) : Option Bool).bind fun v9 => some v9)))))

def qclaw1_ValueNew_l1 (N : Nat) (r9 : ((List Ob) × V × Int)) : Nat → Nat → Option (Ctl Bool Unit)
  | 0, k35 => some (.next ())
  | n40 + 1, k35 => ((value_Slot N r9.1 r9.2.1 (k35 : Int)).bind fun r44 => (bif (!(eqAs (eV r44) [.int (0 : Int), .int (0 : Int)])) then some (.ret false) else qclaw1_ValueNew_l1 N r9 n40 (k35 + 1)))

def qclaw1_ValueNew (N : Nat) (a0 : (List Ob)) (a1 : Int) (a2 : Int) : Option Bool :=
  ((qclaw1_alive N).bind fun r1 => (bif (!r1) then some false else (((bif decide (a2 < (0 : Int)) then some (true) else some (decide ((100 : Int) < a2))) : Option Bool).bind fun v4 => (bif v4 then some true else ((value_New N a0 a1 a2).bind fun r9 => (bif (!decide (r9.2.2 = (0 : Int))) then (((bif decide (r9.2.2 = (15 : Int)) then (bif decide ((60 : Int) ≤ (a0.length : Int)) then some (decide ((r9.1.length : Int) = (0 : Int))) else some (false)) else some (false)) : Option Bool).bind fun v12 => some v12) else (((bif (!decide ((r9.1.length : Int) = (wr ((a0.length : Int) + (1 : Int))))) then some (true) else (bif (!(eqAs (eV r9.2.1) [.int (4 : Int), .int (a0.length : Int)])) then some (true) else ((value_Class N r9.1 r9.2.1).bind fun r27 => (bif (!decide (r27 = a1)) then some (true) else ((nthO r9.1 (a0.length : Int)).bind fun x31 => some ((!decide ((x31.slots.length : Int) = a2)))))))) : Option Bool).bind fun v19 => (bif v19 then some false else ((qclaw1_ValueNew_l1 N r9 ((a2 - ((0 : Nat) : Int)).toNat) 0).bind fun o => match o with | .ret r => some r | .next () => (bif (decide (0 ≤ (a0.length : Int)) && decide ((a0.length : Int) ≤ (r9.1.length : Int))) then ((qcref1_SameWorld N (⟨[], (r9.1.take (a0.length : Int).toNat), (0 : Int)⟩ : Wd) (⟨[], a0, (0 : Int)⟩ : Wd)).bind fun r49 => some r49) else none))))))))))

def qclaw1_ValuePrim (N : Nat) (a0 : Int) (a1 : Int) (a2 : Int) : Option Bool :=
  ((qclaw1_alive N).bind fun r1 => (bif (!r1) then some false else ((((qclaw1_num N a1).bind fun r7 => ((value_Wrong N r7 (0 : Int)).bind fun r9 => (bif (!decide (r9 = (0 : Int))) then some (true) else ((qclaw1_num N a2).bind fun r12 => ((value_Wrong N r12 (0 : Int)).bind fun r14 => some ((!decide (r14 = (0 : Int))))))))) : Option Bool).bind fun v4 => (bif v4 then some true else ((qclaw1_num N a1).bind fun r17 => ((qclaw1_num N a2).bind fun r19 => ((value_Prim N a0 r17 r19).bind fun r21 => (((bif decide (a0 < (1 : Int)) then some (true) else some (decide ((5 : Int) < a0))) : Option Bool).bind fun v23 => (bif v23 then some (decide (r21.2 = (1 : Int))) else ((qclaw1_num N a2).bind fun r28 => ((qclaw1_num N a1).bind fun r30 => ((value_Prim N a0 r28 r30).bind fun r32 => (((bif (!decide (r21.2 = (0 : Int))) then some (true) else (bif (!decide (r32.2 = (0 : Int))) then some (true) else ((value_Wrong N r21.1 (0 : Int)).bind fun r39 => some ((!decide (r39 = (0 : Int))))))) : Option Bool).bind fun v34 => (bif v34 then some false else (((bif decide (a0 = (1 : Int)) then some (decide (a0 = (1 : Int))) else (((bif decide (a0 = (3 : Int)) then some (decide (a0 = (3 : Int))) else some (decide (a0 = (5 : Int)))) : Option Bool).bind fun v46 => some (v46))) : Option Bool).bind fun v42 => (bif v42 then some (eqAs (eV r21.1) (eV r32.1)) else (bif decide (a0 = (4 : Int)) then (((bif decide (r21.1.k = (2 : Int)) then some ((!decide (r32.1.k = (2 : Int)))) else some (true)) : Option Bool).bind fun v52 => some v52) else (((bif decide ((-1073741825 : Int) < r21.1.n) then (bif decide (InR (-r32.1.n)) then some (decide (r21.1.n = (-r32.1.n))) else none) else some (false)) : Option Bool).bind fun v56 => some v56))))))))))))))))))

def qcref1_Name_l1 (N : Nat) (a0 : ByteArray) : Nat → Nat → Option (Ctl Bool Unit)
  | 0, k2 => some (.next ())
  | n7 + 1, k2 => ((((byO a0 (k2 : Int)).bind fun u14 => (bif decide ((u14.toNat : Int) < (33 : Int)) then some (true) else ((byO a0 (k2 : Int)).bind fun u17 => some (decide ((126 : Int) < (u17.toNat : Int)))))) : Option Bool).bind fun v11 => (bif v11 then some (.ret false) else qcref1_Name_l1 N a0 n7 (k2 + 1)))

def qcref1_Name (N : Nat) (a0 : ByteArray) : Option Bool :=
  ((qcref1_Name_l1 N a0 (((a0.size : Int) - ((0 : Nat) : Int)).toNat) 0).bind fun o => match o with | .ret r => some r | .next () => (((bif decide ((0 : Int) < (a0.size : Int)) then some (decide ((a0.size : Int) ≤ (12 : Int))) else some (false)) : Option Bool).bind fun v20 => some v20))

def qcref1_Ups_l1 (N : Nat) (a0 : Wd) : Nat → Int → (List Int) → Option ((List Int))
  | 0, _, _ => none
  | n11 + 1, v2, v3 => (((bif decide ((0 : Int) ≤ v2) then (bif decide (v2 < (a0.classes.length : Int)) then some (decide ((v3.length : Int) ≤ (a0.classes.length : Int))) else some (false)) else some (false)) : Option Bool).bind fun v12 => (bif v12 then (bif Nat.ble ((v3.length + [v2].length) * 8) 140737488355328 then ((nthO a0.classes v2).bind fun x22 => qcref1_Ups_l1 N a0 n11 x22.super (v3 ++ [v2])) else none) else some (v3)))

def qcref1_Ups (N : Nat) (a0 : Wd) (a1 : Int) : Option (List Int) :=
  ((qcref1_Ups_l1 N a0 N a1 ([] : List Int)).bind fun v6 => some v6)

def qcref1_Slots_l1 (N : Nat) (a0 : Wd) (r1 : (List Int)) : List Int → Nat → Int → Option (Int)
  | [], k4, v5 => some (v5)
  | x13 :: rest10, k4, v5 => ((nthO r1 (k4 : Int)).bind fun x16 => ((nthO a0.classes x16).bind fun x18 => qcref1_Slots_l1 N a0 r1 rest10 (k4 + 1) (wr (v5 + x18.slots))))

def qcref1_Slots (N : Nat) (a0 : Wd) (a1 : Int) : Option Int :=
  ((qcref1_Ups N a0 a1).bind fun r1 => ((qcref1_Slots_l1 N a0 r1 r1 0 (0 : Int)).bind fun v7 => some v7))

def qcref1_Numbers (N : Nat) (a0 : Wd) (a1 : Int) (a2 : Me) (a3 : Ins) : Option Int :=
  (((bif decide (a3.op = (1 : Int)) then some (decide (a3.op = (1 : Int))) else (((bif decide (a3.op = (6 : Int)) then some (decide (a3.op = (6 : Int))) else (((bif decide (a3.op = (7 : Int)) then some (decide (a3.op = (7 : Int))) else (((bif decide (a3.op = (8 : Int)) then some (decide (a3.op = (8 : Int))) else (((bif decide (a3.op = (9 : Int)) then some (decide (a3.op = (9 : Int))) else (((bif decide (a3.op = (10 : Int)) then some (decide (a3.op = (10 : Int))) else some (decide (a3.op = (17 : Int)))) : Option Bool).bind fun v21 => some (v21))) : Option Bool).bind fun v17 => some (v17))) : Option Bool).bind fun v13 => some (v13))) : Option Bool).bind fun v9 => some (v9))) : Option Bool).bind fun v5 => some (v5))) : Option Bool).bind fun v1 => (((bif v1 then some (.next ((0 : Int), (0 : Int))) else (((bif decide (a3.op = (2 : Int)) then some (.next ((0 : Int), (wr (a2.args - (1 : Int))))) else (((bif decide (a3.op = (3 : Int)) then some (decide (a3.op = (3 : Int))) else some (decide (a3.op = (11 : Int)))) : Option Bool).bind fun v35 => (((bif v35 then some (.next ((0 : Int), (wr (a2.temps - (1 : Int))))) else (((bif decide (a3.op = (4 : Int)) then some (decide (a3.op = (4 : Int))) else some (decide (a3.op = (12 : Int)))) : Option Bool).bind fun v44 => (((bif v44 then ((qcref1_Slots N a0 a1).bind fun r53 => some (.next ((0 : Int), (wr (r53 - (1 : Int)))))) else (((bif decide (a3.op = (5 : Int)) then some (.next ((-1073741824 : Int), (1073741824 : Int))) else (((bif decide (a3.op = (13 : Int)) then (((bif decide ((0 : Int) < a3.a) then some (decide (a3.a < (4 : Int))) else some (false)) : Option Bool).bind fun v65 => (bif v65 then some (.ret (3 : Int)) else some (.next (wr ((a0.classes.length : Int) - (1 : Int)))))) else (((bif decide (a3.op = (14 : Int)) then some (.next (4 : Int)) else (((bif decide (a3.op = (15 : Int)) then some (decide (a3.op = (15 : Int))) else some (decide (a3.op = (16 : Int)))) : Option Bool).bind fun v74 => (bif v74 then some (.next (wr ((a2.code.length : Int) - (1 : Int)))) else some (.ret (1 : Int))))) : Option (Ctl Int Int)).bind fun o => match o with | .ret r => some (.ret r) | .next v70 => some (.next v70))) : Option (Ctl Int Int)).bind fun o => match o with | .ret r => some (.ret r) | .next v60 => some (.next ((0 : Int), v60)))) : Option (Ctl Int (Int × Int))).bind fun o => match o with | .ret r => some (.ret r) | .next (v55, v56) => some (.next (v55, v56)))) : Option (Ctl Int (Int × Int))).bind fun o => match o with | .ret r => some (.ret r) | .next (v48, v49) => some (.next (v48, v49))))) : Option (Ctl Int (Int × Int))).bind fun o => match o with | .ret r => some (.ret r) | .next (v39, v40) => some (.next (v39, v40))))) : Option (Ctl Int (Int × Int))).bind fun o => match o with | .ret r => some (.ret r) | .next (v30, v31) => some (.next (v30, v31)))) : Option (Ctl Int (Int × Int))).bind fun o => match o with | .ret r => some r | .next (v25, v26) => (((bif decide (a3.a < v25) then some (true) else some (decide (v26 < a3.a))) : Option Bool).bind fun v80 => (bif v80 then some (3 : Int) else (((bif decide (a3.op = (14 : Int)) then ((qcref1_Name N a3.name).bind fun r89 => (bif (!r89) then some (true) else (bif (!decide (a3.op = (14 : Int))) then (bif (!decide (a3.name = (⟨#[]⟩ : ByteArray))) then some (true) else (bif (!decide (a3.b = (0 : Int))) then some (true) else some ((!decide (a3.c = (0 : Int)))))) else (bif (!decide (a3.b = (0 : Int))) then some (true) else some ((!decide (a3.c = (0 : Int)))))))) else (bif (!decide (a3.op = (14 : Int))) then (bif (!decide (a3.name = (⟨#[]⟩ : ByteArray))) then some (true) else (bif (!decide (a3.b = (0 : Int))) then some (true) else some ((!decide (a3.c = (0 : Int)))))) else (bif (!decide (a3.b = (0 : Int))) then some (true) else some ((!decide (a3.c = (0 : Int))))))) : Option Bool).bind fun v85 => (bif v85 then some (2 : Int) else some (0 : Int)))))))

def qcref1_Next (N : Nat) (a0 : Ins) (a1 : Int) : Option (Int × Int × (List Int)) :=
  (((bif decide (a0.op = (9 : Int)) then some (decide (a0.op = (9 : Int))) else (((bif decide (a0.op = (11 : Int)) then some (decide (a0.op = (11 : Int))) else some (decide (a0.op = (12 : Int)))) : Option Bool).bind fun v5 => some (v5))) : Option Bool).bind fun v1 => (bif v1 then some ((1 : Int), (-1 : Int), [(wr (a1 + (1 : Int)))]) else (bif decide (a0.op = (10 : Int)) then some ((1 : Int), (1 : Int), [(wr (a1 + (1 : Int)))]) else (bif decide (a0.op = (14 : Int)) then (bif decide (InR (-a0.a)) then some ((wr (a0.a + (1 : Int))), (-a0.a), [(wr (a1 + (1 : Int)))]) else none) else (bif decide (a0.op = (15 : Int)) then some ((0 : Int), (0 : Int), [a0.a]) else (bif decide (a0.op = (16 : Int)) then some ((1 : Int), (-1 : Int), [(wr (a1 + (1 : Int))), a0.a]) else (bif decide (a0.op = (17 : Int)) then some ((1 : Int), (-1 : Int), ([] : List Int)) else some ((0 : Int), (1 : Int), [(wr (a1 + (1 : Int)))]))))))))

def qcref1_Heights_l1 (N : Nat) : Nat → Nat → (List Int) → Option ((List Int))
  | 0, k4, v5 => some (v5)
  | n12 + 1, k4, v5 => ((nthO v5 (k4 : Int)).bind fun x16 => qcref1_Heights_l1 N n12 (k4 + 1) (v5.set ((k4 : Int).toNat) (-1 : Int)))

def qcref1_Heights_l3 (N : Nat) (x42 : Int) (r61 : (Int × Int × (List Int))) : List Int → Nat → (List Int) → (List Int) → Option (((List Int) × (List Int)))
  | [], k73, v74, v75 => some ((v74, v75))
  | x85 :: rest82, k73, v74, v75 => ((nthO r61.2.2 (k73 : Int)).bind fun x88 => (bif Nat.ble ((v74.length + [x88].length) * 8) 140737488355328 then (bif Nat.ble ((v75.length + [(wr (x42 + r61.2.1))].length) * 8) 140737488355328 then qcref1_Heights_l3 N x42 r61 rest82 (k73 + 1) (v74 ++ [x88]) (v75 ++ [(wr (x42 + r61.2.1))]) else none) else none))

def qcref1_Heights_l2 (N : Nat) (a0 : Me) : Nat → (List Int) → (List Int) → (List Int) → Int → Option (Ctl ((List Int) × TFault) (List Int))
  | 0, _, _, _, _ => none
  | n32 + 1, v19, v20, v21, v22 => (bif decide (v22 < (v20.length : Int)) then ((((nthO v20 v22).bind fun x40 => ((nthO v21 v22).bind fun x42 => (((bif decide ((a0.code.length : Int) ≤ x40) then some (true) else some (decide (x40 < (0 : Int)))) : Option Bool).bind fun v44 => (bif v44 then some (.ret (([] : List Int), (⟨(9 : Int), (a0.code.length : Int)⟩ : TFault))) else ((nthO v19 x40).bind fun x51 => (bif decide ((0 : Int) ≤ x51) then ((nthO v19 x40).bind fun x54 => (bif (!decide (x54 = x42)) then some (.ret (([] : List Int), (⟨(8 : Int), x40⟩ : TFault))) else some (.next (v19, v20, v21)))) else ((nthO v19 x40).bind fun x57 => ((nthO a0.code x40).bind fun x59 => ((qcref1_Next N x59 x40).bind fun r61 => (((bif decide (x42 < r61.1) then some (true) else ((nthO a0.code x40).bind fun x67 => (bif decide (x67.op = (17 : Int)) then some ((!decide (x42 = (1 : Int)))) else some (false)))) : Option Bool).bind fun v63 => (bif v63 then some (.ret (([] : List Int), (⟨(8 : Int), x40⟩ : TFault))) else (bif decide ((12 : Int) < (wr (x42 + r61.2.1))) then some (.ret (([] : List Int), (⟨(4 : Int), x40⟩ : TFault))) else ((qcref1_Heights_l3 N x42 r61 r61.2.2 0 v20 v21).bind fun (v78, v79) => some (.next ((v19.set x40.toNat x42), v78, v79))))))))))))))) : Option (Ctl ((List Int) × TFault) ((List Int) × (List Int) × (List Int)))).bind fun o => match o with | .ret r => some (.ret r) | .next (v35, v36, v37) => qcref1_Heights_l2 N a0 n32 v35 v36 v37 (wr (v22 + (1 : Int)))) else some (.next v19))

def qcref1_Heights (N : Nat) (a0 : Me) : Option ((List Int) × TFault) :=
  (bif (decide (0 ≤ (a0.code.length : Int)) && decide ((a0.code.length : Int) ≤ 140737488355328) && decide ((a0.code.length : Int) * 8 ≤ 140737488355328)) then ((qcref1_Heights_l1 N ((((List.replicate (a0.code.length : Int).toNat (0 : Int)).length : Int) - ((0 : Nat) : Int)).toNat) 0 (List.replicate (a0.code.length : Int).toNat (0 : Int))).bind fun v7 => ((qcref1_Heights_l2 N a0 N v7 [(0 : Int)] [(0 : Int)] (0 : Int)).bind fun o => match o with | .ret r => some r | .next v27 => some (v27, (⟨(0 : Int), (0 : Int)⟩ : TFault)))) else none)

def qcref1_Check_l1 (N : Nat) (a0 : Wd) (a1 : Int) (a2 : Me) : List Ins → Nat → Option (Ctl TFault Unit)
  | [], k26 => some (.next ())
  | x32 :: rest29, k26 => ((qcref1_Numbers N a0 a1 a2 x32).bind fun r35 => (bif (!decide (r35 = (0 : Int))) then some (.ret (⟨r35, (k26 : Int)⟩ : TFault)) else qcref1_Check_l1 N a0 a1 a2 rest29 (k26 + 1)))

def qcref1_Check (N : Nat) (a0 : Wd) (a1 : Int) (a2 : Me) : Option TFault :=
  (((bif decide (a1 < (0 : Int)) then some (true) else some (decide ((a0.classes.length : Int) ≤ a1))) : Option Bool).bind fun v1 => (bif v1 then some (⟨(6 : Int), (0 : Int)⟩ : TFault) else ((qcref1_Name N a2.name).bind fun r7 => (bif (!r7) then some (⟨(7 : Int), (0 : Int)⟩ : TFault) else (((bif decide (a2.args < (0 : Int)) then some (true) else (bif decide ((4 : Int) < a2.args) then some (true) else (bif decide (a2.temps < (0 : Int)) then some (true) else some (decide ((6 : Int) < a2.temps))))) : Option Bool).bind fun v10 => (bif v10 then some (⟨(3 : Int), (0 : Int)⟩ : TFault) else (bif (!decide (a2.prim = (0 : Int))) then some (⟨(1 : Int), (0 : Int)⟩ : TFault) else (((bif decide ((a2.code.length : Int) = (0 : Int)) then some (true) else some (decide ((60 : Int) < (a2.code.length : Int)))) : Option Bool).bind fun v18 => (bif v18 then some (⟨(5 : Int), (0 : Int)⟩ : TFault) else ((qcref1_Check_l1 N a0 a1 a2 a2.code 0).bind fun o => match o with | .ret r => some r | .next () => ((qcref1_Heights N a2).bind fun r38 => some r38.2)))))))))))

def qcref1_Right_l2 (N : Nat) (x24 : Cl) : List Cl → Nat → Option (Ctl Int Unit)
  | [], k39 => some (.next ())
  | x45 :: rest42, k39 => (bif decide (x45.name = x24.name) then some (.ret (7 : Int)) else qcref1_Right_l2 N x24 rest42 (k39 + 1))

def qcref1_Right_l1 (N : Nat) (a0 : Wd) (r1 : Wd) : List Cl → Nat → Option (Ctl Int Unit)
  | [], k18 => some (.next ())
  | x24 :: rest21, k18 => ((((qcref1_Name N x24.name).bind fun r30 => (bif (!r30) then some (true) else (bif decide ((k18 : Int) < (4 : Int)) then ((nthO r1.classes (k18 : Int)).bind fun x34 => some ((!decide (x24.name = x34.name)))) else some (false)))) : Option Bool).bind fun v27 => (bif v27 then some (.ret (7 : Int)) else (bif (decide (0 ≤ (k18 : Int)) && decide ((k18 : Int) ≤ (a0.classes.length : Int))) then ((qcref1_Right_l2 N x24 (a0.classes.take (k18 : Int).toNat) 0).bind fun o => match o with | .ret r => some (.ret r) | .next () => (((bif decide ((k18 : Int) < (4 : Int)) then ((nthO r1.classes (k18 : Int)).bind fun x53 => (bif (!decide (x24.super = x53.super)) then some (.ret (3 : Int)) else some (.next (0 : Int)))) else (((bif decide (x24.super < (0 : Int)) then some (true) else (bif decide ((k18 : Int) ≤ x24.super) then some (true) else (bif decide ((0 : Int) < x24.super) then some (decide (x24.super < (4 : Int))) else some (false)))) : Option Bool).bind fun v56 => (bif v56 then some (.ret (3 : Int)) else some (.next (6 : Int))))) : Option (Ctl Int Int)).bind fun o => match o with | .ret r => some (.ret r) | .next v49 => (((bif decide (x24.slots < (0 : Int)) then some (true) else some (decide (v49 < x24.slots))) : Option Bool).bind fun v63 => (bif v63 then some (.ret (3 : Int)) else qcref1_Right_l1 N a0 r1 rest21 (k18 + 1))))) else none)))

def qcref1_Right_l5 (N : Nat) (k69 : Nat) (x90 : Me) : List Me → Nat → Bool → Option (Bool)
  | [], k103, v104 => some (v104)
  | x112 :: rest109, k103, v104 => (((bif v104 then some (true) else (bif decide ((k69 : Int) = (3 : Int)) then (bif decide (x112.name = x90.name) then (bif decide (x112.prim = x90.prim) then (bif decide (x90.args = (1 : Int)) then (bif decide (x90.temps = (0 : Int)) then some (decide ((x90.code.length : Int) = (0 : Int))) else some (false)) else some (false)) else some (false)) else some (false)) else some (false))) : Option Bool).bind fun v115 => qcref1_Right_l5 N k69 x90 rest109 (k103 + 1) v115)

def qcref1_Right_l4 (N : Nat) (a0 : Wd) (r1 : Wd) (k69 : Nat) (x75 : Cl) : List Me → Nat → Option (Ctl Int Unit)
  | [], k84 => some (.next ())
  | x90 :: rest87, k84 => (((bif decide ((0 : Int) < (k84 : Int)) then ((nthO x75.methods (wr ((k84 : Int) - (1 : Int)))).bind fun x97 => some ((!ltS x97.name x90.name))) else some (false)) : Option Bool).bind fun v93 => (bif v93 then some (.ret (7 : Int)) else ((nthO r1.classes (3 : Int)).bind fun x100 => ((qcref1_Right_l5 N k69 x90 x100.methods 0 false).bind fun v106 => ((qcref1_Check N a0 (k69 : Int) x90).bind fun r125 => (((bif (!v106) then some ((!decide (r125.err = (0 : Int)))) else some (false)) : Option Bool).bind fun v127 => (bif v127 then some (.ret r125.err) else qcref1_Right_l4 N a0 r1 k69 x75 rest87 (k84 + 1))))))))

def qcref1_Right_l3 (N : Nat) (a0 : Wd) (r1 : Wd) : List Cl → Nat → Option (Ctl Int Unit)
  | [], k69 => some (.next ())
  | x75 :: rest72, k69 => ((qcref1_Slots N a0 (k69 : Int)).bind fun r78 => (bif decide ((6 : Int) < r78) then some (.ret (3 : Int)) else (bif decide ((8 : Int) < (x75.methods.length : Int)) then some (.ret (5 : Int)) else ((qcref1_Right_l4 N a0 r1 k69 x75 x75.methods 0).bind fun o => match o with | .ret r => some (.ret r) | .next () => qcref1_Right_l3 N a0 r1 rest72 (k69 + 1)))))

def qcref1_Right_l7 (N : Nat) (a0 : Wd) : List V → Nat → Option (Ctl Int Unit)
  | [], k160 => some (.next ())
  | x166 :: rest163, k160 => ((qcref1_Wrong N x166 (a0.heap.length : Int)).bind fun r170 => (bif (!decide (r170 = (0 : Int))) then some (.ret r170) else qcref1_Right_l7 N a0 rest163 (k160 + 1)))

def qcref1_Right_l6 (N : Nat) (a0 : Wd) : List Ob → Nat → Option (Ctl Int Unit)
  | [], k133 => some (.next ())
  | x139 :: rest136, k133 => (((bif decide (x139.cls < (0 : Int)) then some (true) else (bif decide ((0 : Int) < x139.cls) then (bif decide (x139.cls < (4 : Int)) then some (true) else (bif decide ((a0.classes.length : Int) ≤ x139.cls) then some (true) else ((qcref1_Slots N a0 x139.cls).bind fun r151 => some ((!decide ((x139.slots.length : Int) = r151)))))) else (bif decide ((a0.classes.length : Int) ≤ x139.cls) then some (true) else ((qcref1_Slots N a0 x139.cls).bind fun r156 => some ((!decide ((x139.slots.length : Int) = r156))))))) : Option Bool).bind fun v142 => (bif v142 then some (.ret (8 : Int)) else ((qcref1_Right_l7 N a0 x139.slots 0).bind fun o => match o with | .ret r => some (.ret r) | .next () => qcref1_Right_l6 N a0 rest136 (k133 + 1))))

def qcref1_Right (N : Nat) (a0 : Wd) : Option Int :=
  ((qcref1_New N).bind fun r1 => (((bif decide ((a0.classes.length : Int) < (4 : Int)) then some (true) else (bif decide ((12 : Int) < (a0.classes.length : Int)) then some (true) else some (decide ((60 : Int) < (a0.heap.length : Int))))) : Option Bool).bind fun v3 => (bif v3 then some (5 : Int) else (((bif decide (a0.epoch < (0 : Int)) then some (true) else some (decide ((1073741824 : Int) < a0.epoch))) : Option Bool).bind fun v12 => (bif v12 then some (3 : Int) else ((qcref1_Right_l1 N a0 r1 a0.classes 0).bind fun o => match o with | .ret r => some r | .next () => ((qcref1_Right_l3 N a0 r1 a0.classes 0).bind fun o => match o with | .ret r => some r | .next () => ((qcref1_Right_l6 N a0 a0.heap 0).bind fun o => match o with | .ret r => some r | .next () => some (0 : Int)))))))))

def qclaw9_small_l2 (N : Nat) : List Ln → Nat → Option (Ctl Bool Unit)
  | [], k12 => some (.next ())
  | x18 :: rest15, k12 => (((bif decide (x18.found < (0 : Int)) then some (true) else some (decide ((1000000 : Int) < x18.found))) : Option Bool).bind fun v21 => (bif v21 then some (.ret false) else qclaw9_small_l2 N rest15 (k12 + 1)))

def qclaw9_small_l1 (N : Nat) : List Tl → Nat → Option (Ctl Bool Unit)
  | [], k2 => some (.next ())
  | x8 :: rest5, k2 => ((qclaw9_small_l2 N x8.classes 0).bind fun o => match o with | .ret r => some (.ret r) | .next () => qclaw9_small_l1 N rest5 (k2 + 1))

def qclaw9_small (N : Nat) (a0 : (List Tl)) : Option Bool :=
  ((qclaw9_small_l1 N a0 0).bind fun o => match o with | .ret r => some r | .next () => some true)

def slices_IndexFunc_api_Instr_api_Instr_l1 (N : Nat) (g1 : (Ins → Option Bool)) : List Ins → Nat → Option (Ctl Int Unit)
  | [], k2 => some (.next ())
  | x8 :: rest5, k2 => ((g1 x8).bind fun r11 => (bif r11 then some (.ret (k2 : Int)) else slices_IndexFunc_api_Instr_api_Instr_l1 N g1 rest5 (k2 + 1)))

def slices_IndexFunc_api_Instr_api_Instr (N : Nat) (a0 : (List Ins)) (g1 : Ins → Option Bool) : Option Int :=
  ((slices_IndexFunc_api_Instr_api_Instr_l1 N g1 a0 0).bind fun o => match o with | .ret r => some r | .next () => some (-1 : Int))

def slices_ContainsFunc_api_Instr_api_Instr (N : Nat) (a0 : (List Ins)) (g1 : Ins → Option Bool) : Option Bool :=
  ((slices_IndexFunc_api_Instr_api_Instr N a0 g1).bind fun r1 => some (decide ((0 : Int) ≤ r1)))

def choose_Leaf_1 (N : Nat) (a0 : Ins) : Option Bool :=
  (((bif decide (a0.op = (14 : Int)) then some (true) else some (decide (a0.op = (13 : Int)))) : Option Bool).bind fun v1 => some v1)

def choose_Leaf (N : Nat) (a0 : Me) : Option Bool :=
  (((bif decide (a0.prim = (0 : Int)) then ((slices_ContainsFunc_api_Instr_api_Instr N a0.code (fun x0_ => choose_Leaf_1 N x0_)).bind fun r5 => some ((!r5))) else some (false)) : Option Bool).bind fun v1 => some v1)

def qcref5_Leaf_l1 (N : Nat) : List Ins → Nat → Option (Ctl Bool Unit)
  | [], k2 => some (.next ())
  | x8 :: rest5, k2 => (((bif decide (x8.op = (14 : Int)) then some (true) else some (decide (x8.op = (13 : Int)))) : Option Bool).bind fun v11 => (bif v11 then some (.ret false) else qcref5_Leaf_l1 N rest5 (k2 + 1)))

def qcref5_Leaf (N : Nat) (a0 : Me) : Option Bool :=
  ((qcref5_Leaf_l1 N a0.code 0).bind fun o => match o with | .ret r => some r | .next () => some (decide (a0.prim = (0 : Int))))

def slices_BinarySearchFunc_api_Method_api_Method_string_l1 (N : Nat) (a0 : (List Me)) (a1 : ByteArray) (g2 : (Me → ByteArray → Option Int)) : Nat → Int → Int → Option (Int)
  | 0, _, _ => none
  | n12 + 1, v3, v4 => (bif decide (v3 < v4) then (bif decide (0 ≤ (wr (v3 + v4))) then (bif decide (InR ((wr (v3 + v4)) / 2)) then ((nthO a0 ((wr (v3 + v4)) / 2)).bind fun x16 => ((g2 x16 a1).bind fun r18 => (((bif decide (r18 < (0 : Int)) then some (((wr (((wr (v3 + v4)) / 2) + (1 : Int))), v4)) else some ((v3, ((wr (v3 + v4)) / 2)))) : Option (Int × Int)).bind fun (v20, v21) => slices_BinarySearchFunc_api_Method_api_Method_string_l1 N a0 a1 g2 n12 v20 v21))) else none) else none) else some (v3))

def slices_BinarySearchFunc_api_Method_api_Method_string (N : Nat) (a0 : (List Me)) (a1 : ByteArray) (g2 : Me → ByteArray → Option Int) : Option (Int × Bool) :=
  ((slices_BinarySearchFunc_api_Method_api_Method_string_l1 N a0 a1 g2 N (0 : Int) (a0.length : Int)).bind fun v7 => (((bif decide (v7 < (a0.length : Int)) then ((nthO a0 v7).bind fun x29 => ((g2 x29 a1).bind fun r31 => some (decide (r31 = (0 : Int))))) else some (false)) : Option Bool).bind fun v25 => some (v7, v25)))

def cmp_isNaN_string (N : Nat) (a0 : ByteArray) : Option Bool :=
  some (!decide (a0 = a0))

def cmp_Compare_string (N : Nat) (a0 : ByteArray) (a1 : ByteArray) : Option Int :=
  ((cmp_isNaN_string N a0).bind fun r1 => ((cmp_isNaN_string N a1).bind fun r3 => (bif r1 then (bif r3 then some (0 : Int) else some (-1 : Int)) else (bif r3 then some (1 : Int) else (bif (ltS a0 a1) then some (-1 : Int) else (bif (!(ltS a0 a1 || decide (a0 = a1))) then some (1 : Int) else some (0 : Int)))))))

def class_order (N : Nat) (a0 : Me) (a1 : ByteArray) : Option Int :=
  ((cmp_Compare_string N a0.name a1).bind fun r1 => some r1)

def class_Find_l1 (N : Nat) (a0 : Wd) (a2 : ByteArray) : Nat → Int → Int → Option (Ctl (Int × Int) Unit)
  | 0, _, _ => none
  | n10 + 1, v2, v3 => (((bif decide ((0 : Int) ≤ v2) then (bif decide (v2 < (a0.classes.length : Int)) then some (decide (v3 ≤ (a0.classes.length : Int))) else some (false)) else some (false)) : Option Bool).bind fun v11 => (bif v11 then ((nthO a0.classes v2).bind fun x19 => ((slices_BinarySearchFunc_api_Method_api_Method_string N x19.methods a2 (fun x0_ x1_ => class_order N x0_ x1_)).bind fun r21 => (bif r21.2 then some (.ret (v2, r21.1)) else ((nthO a0.classes v2).bind fun x24 => class_Find_l1 N a0 a2 n10 x24.super (wr (v3 + (1 : Int))))))) else some (.next ())))

def class_Find (N : Nat) (a0 : Wd) (a1 : Int) (a2 : ByteArray) : Option (Int × Int) :=
  ((class_Find_l1 N a0 a2 N a1 (0 : Int)).bind fun o => match o with | .ret r => some r | .next () => some ((-1 : Int), (-1 : Int)))

def choose_Site (N : Nat) (a0 : Wd) (a1 : (List Tl)) (a2 : St) (a3 : ByteArray) (a4 : Int) : Option Int :=
  ((tally_Most N a1 a2).bind fun r1 => ((tally_All N a1 a2).bind fun r3 => (((bif decide (r1.1 < (0 : Int)) then some (true) else (bif decide (r3 < (2 : Int)) then some (true) else some (decide ((wr ((2 : Int) * r1.2)) ≤ r3)))) : Option Bool).bind fun v5 => (bif v5 then some (-1 : Int) else ((class_Find N a0 r1.1 a3).bind fun r11 => (((bif decide (r11.2 < (0 : Int)) then some (true) else ((nthO a0.classes r11.1).bind fun x17 => ((nthO x17.methods r11.2).bind fun x19 => ((choose_Leaf N x19).bind fun r21 => (bif (!r21) then some (true) else ((nthO a0.classes r11.1).bind fun x24 => ((nthO x24.methods r11.2).bind fun x26 => some ((!decide (x26.args = a4)))))))))) : Option Bool).bind fun v13 => (bif v13 then some (-1 : Int) else some r1.1)))))))

def choose_Sites_l1 (N : Nat) (a0 : Wd) (a1 : (List Tl)) (a2 : Int) (x14 : Me) : List Ins → Nat → (List Int) → Option ((List Int))
  | [], k17, v18 => some (v18)
  | x26 :: rest23, k17, v18 => (((bif decide (x26.op = (14 : Int)) then ((choose_Site N a0 a1 (⟨a2, x14.name, (k17 : Int)⟩ : St) x26.name x26.a).bind fun r33 => some (r33)) else some ((-1 : Int))) : Option Int).bind fun v29 => (bif Nat.ble ((v18.length + [v29].length) * 8) 140737488355328 then choose_Sites_l1 N a0 a1 a2 x14 rest23 (k17 + 1) (v18 ++ [v29]) else none))

def choose_Sites (N : Nat) (a0 : Wd) (a1 : (List Tl)) (a2 : Int) (a3 : Int) : Option (List Int) :=
  (((bif decide (a2 < (0 : Int)) then some (true) else (bif decide ((a0.classes.length : Int) ≤ a2) then some (true) else (bif decide (a3 < (0 : Int)) then some (true) else ((nthO a0.classes a2).bind fun x8 => some (decide ((x8.methods.length : Int) ≤ a3)))))) : Option Bool).bind fun v1 => (bif v1 then some ([] : List Int) else ((nthO a0.classes a2).bind fun x12 => ((nthO x12.methods a3).bind fun x14 => ((choose_Sites_l1 N a0 a1 a2 x14 x14.code 0 ([] : List Int)).bind fun v20 => some v20)))))

def qcref1_Find_l2 (N : Nat) (a2 : ByteArray) (x13 : Int) : List Me → Nat → Option (Ctl (Int × Int) Unit)
  | [], k18 => some (.next ())
  | x24 :: rest21, k18 => (bif decide (x24.name = a2) then some (.ret (x13, (k18 : Int))) else qcref1_Find_l2 N a2 x13 rest21 (k18 + 1))

def qcref1_Find_l1 (N : Nat) (a0 : Wd) (a2 : ByteArray) (r1 : (List Int)) : List Int → Nat → Option (Ctl (Int × Int) Unit)
  | [], k4 => some (.next ())
  | x10 :: rest7, k4 => ((nthO r1 (k4 : Int)).bind fun x13 => ((nthO a0.classes x13).bind fun x15 => ((qcref1_Find_l2 N a2 x13 x15.methods 0).bind fun o => match o with | .ret r => some (.ret r) | .next () => qcref1_Find_l1 N a0 a2 r1 rest7 (k4 + 1))))

def qcref1_Find (N : Nat) (a0 : Wd) (a1 : Int) (a2 : ByteArray) : Option (Int × Int) :=
  ((qcref1_Ups N a0 a1).bind fun r1 => ((qcref1_Find_l1 N a0 a2 r1 r1 0).bind fun o => match o with | .ret r => some r | .next () => some ((-1 : Int), (-1 : Int))))

def qcref5_Site (N : Nat) (a0 : Wd) (a1 : (List Tl)) (a2 : St) (a3 : ByteArray) (a4 : Int) : Option Int :=
  ((qcref1_Most N a1 a2).bind fun r1 => (((bif decide (r1.2.2 < (2 : Int)) then some (true) else (bif decide ((wr (r1.2.1 + r1.2.1)) ≤ r1.2.2) then some (true) else some (decide (r1.1 < (0 : Int))))) : Option Bool).bind fun v3 => (bif v3 then some (-1 : Int) else ((qcref1_Find N a0 r1.1 a3).bind fun r9 => (bif decide (r9.2 < (0 : Int)) then some (-1 : Int) else ((nthO a0.classes r9.1).bind fun x12 => ((nthO x12.methods r9.2).bind fun x14 => ((((qcref5_Leaf N x14).bind fun r19 => (bif (!r19) then some (true) else some ((!decide (x14.args = a4))))) : Option Bool).bind fun v16 => (bif v16 then some (-1 : Int) else some r1.1)))))))))

def qcref5_Sites_l1 (N : Nat) (a0 : Wd) (a1 : (List Tl)) (a2 : Int) (x14 : Me) : List Ins → Nat → (List Int) → Option ((List Int))
  | [], k17, v18 => some (v18)
  | x26 :: rest23, k17, v18 => (((bif decide (x26.op = (14 : Int)) then ((qcref5_Site N a0 a1 (⟨a2, x14.name, (k17 : Int)⟩ : St) x26.name x26.a).bind fun r33 => some (r33)) else some ((-1 : Int))) : Option Int).bind fun v29 => (bif Nat.ble ((v18.length + [v29].length) * 8) 140737488355328 then qcref5_Sites_l1 N a0 a1 a2 x14 rest23 (k17 + 1) (v18 ++ [v29]) else none))

def qcref5_Sites (N : Nat) (a0 : Wd) (a1 : (List Tl)) (a2 : Int) (a3 : Int) : Option (List Int) :=
  (((bif decide (a2 < (0 : Int)) then some (true) else (bif decide ((a0.classes.length : Int) ≤ a2) then some (true) else (bif decide (a3 < (0 : Int)) then some (true) else ((nthO a0.classes a2).bind fun x8 => some (decide ((x8.methods.length : Int) ≤ a3)))))) : Option Bool).bind fun v1 => (bif v1 then some ([] : List Int) else ((nthO a0.classes a2).bind fun x12 => ((nthO x12.methods a3).bind fun x14 => ((qcref5_Sites_l1 N a0 a1 a2 x14 x14.code 0 ([] : List Int)).bind fun v20 => some v20)))))

def qclaw9_ChooseTells_l2 (N : Nat) : List Me → Nat → Option (Ctl Bool Unit)
  | [], k21 => some (.next ())
  | x27 :: rest24, k21 => ((choose_Leaf N x27).bind fun r30 => ((qcref5_Leaf N x27).bind fun r32 => (bif (!decide (r30 = r32)) then some (.ret false) else qclaw9_ChooseTells_l2 N rest24 (k21 + 1))))

def qclaw9_ChooseTells_l1 (N : Nat) : List Cl → Nat → Option (Ctl Bool Unit)
  | [], k11 => some (.next ())
  | x17 :: rest14, k11 => ((qclaw9_ChooseTells_l2 N x17.methods 0).bind fun o => match o with | .ret r => some (.ret r) | .next () => qclaw9_ChooseTells_l1 N rest14 (k11 + 1))

def qclaw9_ChooseTells_l3 (N : Nat) (r35 : (List Int)) (r37 : (List Int)) : List Int → Nat → Option (Ctl Bool Unit)
  | [], k43 => some (.next ())
  | x49 :: rest46, k43 => ((nthO r35 (k43 : Int)).bind fun x52 => ((nthO r37 (k43 : Int)).bind fun x54 => (bif (!decide (x52 = x54)) then some (.ret false) else qclaw9_ChooseTells_l3 N r35 r37 rest46 (k43 + 1))))

def qclaw9_ChooseTells (N : Nat) (a0 : Wd) (a1 : (List Tl)) (a2 : Int) (a3 : Int) (a4 : St) (a5 : ByteArray) (a6 : Int) : Option Bool :=
  ((((qcref1_Right N a0).bind fun r4 => (bif (!decide (r4 = (0 : Int))) then some (true) else ((qclaw9_small N a1).bind fun r7 => some ((!r7))))) : Option Bool).bind fun v1 => (bif v1 then some true else ((qclaw9_ChooseTells_l1 N a0.classes 0).bind fun o => match o with | .ret r => some r | .next () => ((choose_Sites N a0 a1 a2 a3).bind fun r35 => ((qcref5_Sites N a0 a1 a2 a3).bind fun r37 => (bif (!decide ((r35.length : Int) = (r37.length : Int))) then some false else ((qclaw9_ChooseTells_l3 N r35 r37 r35 0).bind fun o => match o with | .ret r => some r | .next () => ((choose_Site N a0 a1 a4 a5 a6).bind fun r57 => ((qcref5_Site N a0 a1 a4 a5 a6).bind fun r59 => some (decide (r57 = r59)))))))))))

def qcref1_Make_l1 (N : Nat) (a1 : ByteArray) : List Cl → Nat → Option (Ctl (Wd × Int × Int) Unit)
  | [], k5 => some (.next ())
  | x11 :: rest8, k5 => (bif decide (x11.name = a1) then some (.ret ((⟨[], [], (0 : Int)⟩ : Wd), (0 : Int), (7 : Int))) else qcref1_Make_l1 N a1 rest8 (k5 + 1))

def qcref1_Make (N : Nat) (a0 : Wd) (a1 : ByteArray) (a2 : Int) (a3 : Int) : Option (Wd × Int × Int) :=
  ((qcref1_Name N a1).bind fun r1 => (bif (!r1) then some ((⟨[], [], (0 : Int)⟩ : Wd), (0 : Int), (7 : Int)) else ((qcref1_Make_l1 N a1 a0.classes 0).bind fun o => match o with | .ret r => some r | .next () => (((bif decide (a2 < (0 : Int)) then some (true) else some (decide ((a0.classes.length : Int) ≤ a2))) : Option Bool).bind fun v15 => (bif v15 then some ((⟨[], [], (0 : Int)⟩ : Wd), (0 : Int), (6 : Int)) else (((bif decide (a3 < (0 : Int)) then some (true) else (bif decide ((6 : Int) < a3) then some (true) else ((qcref1_Slots N a0 a2).bind fun r26 => (bif decide ((6 : Int) < (wr (a3 + r26))) then some (true) else (bif decide ((0 : Int) < a2) then some (decide (a2 < (4 : Int))) else some (false)))))) : Option Bool).bind fun v21 => (bif v21 then some ((⟨[], [], (0 : Int)⟩ : Wd), (0 : Int), (3 : Int)) else (bif decide ((12 : Int) ≤ (a0.classes.length : Int)) then some ((⟨[], [], (0 : Int)⟩ : Wd), (0 : Int), (5 : Int)) else (bif Nat.ble ((([] : List Cl).length + a0.classes.length) * 56) 140737488355328 then (bif Nat.ble (((([] : List Cl) ++ a0.classes).length + [(⟨a1, a2, a3, []⟩ : Cl)].length) * 56) 140737488355328 then some ((⟨((([] : List Cl) ++ a0.classes) ++ [(⟨a1, a2, a3, []⟩ : Cl)]), a0.heap, a0.epoch⟩ : Wd), (a0.classes.length : Int), (0 : Int)) else none) else none)))))))))

def qcref1_Install_l1 (N : Nat) (a2 : Me) : List Me → Nat → (List Me) → Bool → Bool → Option (((List Me) × Bool × Bool))
  | [], k10, v11, v12, v13 => some ((v11, v12, v13))
  | x25 :: rest22, k10, v11, v12, v13 => (((bif decide (x25.name = a2.name) then (bif Nat.ble ((v11.length + [a2].length) * 64) 140737488355328 then some (((v11 ++ [a2]), true, true)) else none) else (((bif (!v12) then some ((!(ltS x25.name a2.name || decide (x25.name = a2.name)))) else some (false)) : Option Bool).bind fun v35 => (((bif v35 then (bif Nat.ble ((v11.length + [a2].length) * 64) 140737488355328 then some (((v11 ++ [a2]), true)) else none) else some ((v11, v12))) : Option ((List Me) × Bool)).bind fun (v39, v40) => (bif Nat.ble ((v39.length + [x25].length) * 64) 140737488355328 then some (((v39 ++ [x25]), v40, v13)) else none)))) : Option ((List Me) × Bool × Bool)).bind fun (v28, v29, v30) => qcref1_Install_l1 N a2 rest22 (k10 + 1) v28 v29 v30)

def qcref1_Install (N : Nat) (a0 : Wd) (a1 : Int) (a2 : Me) : Option (Wd × Int) :=
  (((bif decide (a1 < (0 : Int)) then some (true) else some (decide ((a0.classes.length : Int) ≤ a1))) : Option Bool).bind fun v1 => (bif v1 then some ((⟨[], [], (0 : Int)⟩ : Wd), (6 : Int)) else ((nthO a0.classes a1).bind fun x7 => ((qcref1_Install_l1 N a2 x7.methods 0 ([] : List Me) false false).bind fun (v17, v18, v19) => (((bif (!v18) then (bif Nat.ble ((v17.length + [a2].length) * 64) 140737488355328 then some ((v17 ++ [a2])) else none) else some (v17)) : Option (List Me)).bind fun v46 => (((bif (!v19) then ((nthO a0.classes a1).bind fun x55 => some (decide ((8 : Int) ≤ (x55.methods.length : Int)))) else some (false)) : Option Bool).bind fun v51 => (bif v51 then some ((⟨[], [], (0 : Int)⟩ : Wd), (5 : Int)) else (bif Nat.ble ((([] : List Cl).length + a0.classes.length) * 56) 140737488355328 then ((nthO (([] : List Cl) ++ a0.classes) a1).bind fun x60 => some ((⟨((([] : List Cl) ++ a0.classes).set a1.toNat (⟨x60.name, x60.super, x60.slots, v46⟩ : Cl)), a0.heap, (wr (a0.epoch + (1 : Int)))⟩ : Wd), (0 : Int))) else none))))))))

def qclaw9_alive (N : Nat) : Option Bool :=
  ((qcref1_New N).bind fun r1 => ((qcref1_Make N r1 (⟨#[65]⟩ : ByteArray) (0 : Int) (0 : Int)).bind fun r3 => ((qcref1_Install N r3.1 r3.2.1 (⟨(⟨#[103]⟩ : ByteArray), (0 : Int), (0 : Int), (0 : Int), [(⟨(1 : Int), (0 : Int), (0 : Int), (0 : Int), ByteArray.empty⟩ : Ins), (⟨(17 : Int), (0 : Int), (0 : Int), (0 : Int), ByteArray.empty⟩ : Ins)]⟩ : Me)).bind fun r5 => ((qcref1_Install N r5.1 r3.2.1 (⟨(⟨#[109]⟩ : ByteArray), (0 : Int), (0 : Int), (0 : Int), [(⟨(1 : Int), (0 : Int), (0 : Int), (0 : Int), ByteArray.empty⟩ : Ins), (⟨(14 : Int), (0 : Int), (0 : Int), (0 : Int), (⟨#[103]⟩ : ByteArray)⟩ : Ins), (⟨(17 : Int), (0 : Int), (0 : Int), (0 : Int), ByteArray.empty⟩ : Ins)]⟩ : Me)).bind fun r7 => ((choose_Sites N r7.1 [(⟨(⟨r3.2.1, (⟨#[109]⟩ : ByteArray), (1 : Int)⟩ : St), [(⟨r3.2.1, (2 : Int)⟩ : Ln)]⟩ : Tl)] r3.2.1 (1 : Int)).bind fun r9 => (((bif decide ((r9.length : Int) = (3 : Int)) then ((nthO r9 (1 : Int)).bind fun x16 => (bif decide (x16 = r3.2.1) then ((nthO r9 (0 : Int)).bind fun x19 => (bif decide (x19 = (-1 : Int)) then ((choose_Site N r7.1 [(⟨(⟨r3.2.1, (⟨#[109]⟩ : ByteArray), (1 : Int)⟩ : St), [(⟨r3.2.1, (2 : Int)⟩ : Ln)]⟩ : Tl)] (⟨r3.2.1, (⟨#[109]⟩ : ByteArray), (1 : Int)⟩ : St) (⟨#[103]⟩ : ByteArray) (0 : Int)).bind fun r22 => (bif decide (r22 = r3.2.1) then ((choose_Site N r7.1 [] (⟨r3.2.1, (⟨#[109]⟩ : ByteArray), (1 : Int)⟩ : St) (⟨#[103]⟩ : ByteArray) (0 : Int)).bind fun r25 => (bif decide (r25 = (-1 : Int)) then ((nthO r7.1.classes r3.2.1).bind fun x28 => ((nthO x28.methods (0 : Int)).bind fun x30 => ((choose_Leaf N x30).bind fun r32 => (bif r32 then ((nthO r7.1.classes r3.2.1).bind fun x35 => ((nthO x35.methods (1 : Int)).bind fun x37 => ((choose_Leaf N x37).bind fun r39 => some ((!r39))))) else some (false))))) else some (false))) else some (false))) else some (false))) else some (false))) else some (false)) : Option Bool).bind fun v11 => some v11))))))

def qclaw9_ChooseMost_l2 (N : Nat) (r13 : Int) : List Ln → Nat → Int → Int → Option ((Int × Int))
  | [], k38, v39, v40 => some ((v39, v40))
  | x50 :: rest47, k38, v39, v40 => (((bif decide (x50.cls = r13) then some ((wr (v39 + x50.found))) else some (v39)) : Option Int).bind fun v53 => qclaw9_ChooseMost_l2 N r13 rest47 (k38 + 1) v53 (wr (v40 + x50.found)))

def qclaw9_ChooseMost_l1 (N : Nat) (a2 : St) (r13 : Int) : List Tl → Nat → Int → Int → Option ((Int × Int))
  | [], k17, v18, v19 => some ((v18, v19))
  | x29 :: rest26, k17, v18, v19 => (((bif (!(eqAs (eSt x29.site) (eSt a2))) then some ((v18, v19)) else ((qclaw9_ChooseMost_l2 N r13 x29.classes 0 v18 v19).bind fun (v43, v44) => some ((v43, v44)))) : Option (Int × Int)).bind fun (v32, v33) => qclaw9_ChooseMost_l1 N a2 r13 rest26 (k17 + 1) v32 v33)

def qclaw9_ChooseMost_l3 (N : Nat) : List Ins → Nat → Option (Ctl Bool Unit)
  | [], k69 => some (.next ())
  | x75 :: rest72, k69 => (((bif decide (x75.op = (14 : Int)) then some (true) else some (decide (x75.op = (13 : Int)))) : Option Bool).bind fun v78 => (bif v78 then some (.ret false) else qclaw9_ChooseMost_l3 N rest72 (k69 + 1)))

def qclaw9_ChooseMost (N : Nat) (a0 : Wd) (a1 : (List Tl)) (a2 : St) (a3 : ByteArray) (a4 : Int) : Option Bool :=
  ((qclaw9_alive N).bind fun r1 => (bif (!r1) then some false else ((((qcref1_Right N a0).bind fun r7 => (bif (!decide (r7 = (0 : Int))) then some (true) else ((qclaw9_small N a1).bind fun r10 => some ((!r10))))) : Option Bool).bind fun v4 => (bif v4 then some true else ((choose_Site N a0 a1 a2 a3 a4).bind fun r13 => (bif decide (r13 = (-1 : Int)) then some true else ((qclaw9_ChooseMost_l1 N a2 r13 a1 0 (0 : Int) (0 : Int)).bind fun (v22, v23) => ((qcref1_Find N a0 r13 a3).bind fun r57 => (((bif decide ((wr (v22 + v22)) ≤ v23) then some (true) else some (decide (r57.2 < (0 : Int)))) : Option Bool).bind fun v59 => (bif v59 then some false else ((nthO a0.classes r57.1).bind fun x64 => ((nthO x64.methods r57.2).bind fun x66 => ((qclaw9_ChooseMost_l3 N x66.code 0).bind fun o => match o with | .ret r => some r | .next () => (((bif decide (x66.prim = (0 : Int)) then some (decide (x66.args = a4)) else some (false)) : Option Bool).bind fun v83 => some v83))))))))))))))

def qcref1_Rises_l2 (N : Nat) (x8 : Cl) : List Me → Nat → Option (Ctl Bool Unit)
  | [], k12 => some (.next ())
  | x18 :: rest15, k12 => (((bif decide ((0 : Int) < (k12 : Int)) then ((nthO x8.methods (wr ((k12 : Int) - (1 : Int)))).bind fun x25 => some ((!ltS x25.name x18.name))) else some (false)) : Option Bool).bind fun v21 => (bif v21 then some (.ret false) else qcref1_Rises_l2 N x8 rest15 (k12 + 1)))

def qcref1_Rises_l1 (N : Nat) : List Cl → Nat → Option (Ctl Bool Unit)
  | [], k2 => some (.next ())
  | x8 :: rest5, k2 => ((qcref1_Rises_l2 N x8 x8.methods 0).bind fun o => match o with | .ret r => some (.ret r) | .next () => qcref1_Rises_l1 N rest5 (k2 + 1))

def qcref1_Rises (N : Nat) (a0 : Wd) : Option Bool :=
  ((qcref1_Rises_l1 N a0.classes 0).bind fun o => match o with | .ret r => some r | .next () => some true)

def class_Name_l1 (N : Nat) (a0 : ByteArray) : Nat → Nat → Option (Ctl Bool Unit)
  | 0, k9 => some (.next ())
  | n14 + 1, k9 => ((((byO a0 (k9 : Int)).bind fun u21 => (bif decide ((u21.toNat : Int) ≤ (32 : Int)) then some (true) else ((byO a0 (k9 : Int)).bind fun u24 => some (decide ((126 : Int) < (u24.toNat : Int)))))) : Option Bool).bind fun v18 => (bif v18 then some (.ret false) else class_Name_l1 N a0 n14 (k9 + 1)))

def class_Name (N : Nat) (a0 : ByteArray) : Option Bool :=
  (((bif decide ((a0.size : Int) < (1 : Int)) then some (true) else some (decide ((12 : Int) < (a0.size : Int)))) : Option Bool).bind fun v1 => (bif v1 then some false else ((class_Name_l1 N a0 (((a0.size : Int) - ((0 : Nat) : Int)).toNat) 0).bind fun o => match o with | .ret r => some r | .next () => some true)))

def code_numbers_1 (N : Nat) (a0 : Int) (a1 : Int) : Option Bool :=
  (((bif decide ((0 : Int) ≤ a0) then some (decide (a0 < a1)) else some (false)) : Option Bool).bind fun v1 => some v1)

def class_Slots_l1 (N : Nat) (a0 : Wd) : Nat → Int → Int → Int → Option (Int)
  | 0, _, _, _ => none
  | n13 + 1, v2, v3, v4 => (((bif decide ((0 : Int) ≤ v2) then (bif decide (v2 < (a0.classes.length : Int)) then some (decide (v4 ≤ (a0.classes.length : Int))) else some (false)) else some (false)) : Option Bool).bind fun v14 => (bif v14 then ((nthO a0.classes v2).bind fun x22 => ((nthO a0.classes v2).bind fun x24 => class_Slots_l1 N a0 n13 x24.super (wr (v3 + x22.slots)) (wr (v4 + (1 : Int))))) else some (v3)))

def class_Slots (N : Nat) (a0 : Wd) (a1 : Int) : Option Int :=
  ((class_Slots_l1 N a0 N a1 (0 : Int) (0 : Int)).bind fun v8 => some v8)

def code_numbers (N : Nat) (a0 : Wd) (a1 : Int) (a2 : Me) (a3 : Ins) : Option Int :=
  (((bif decide (a3.op = (1 : Int)) then some (decide (a3.op = (1 : Int))) else (((bif decide (a3.op = (6 : Int)) then some (decide (a3.op = (6 : Int))) else (((bif decide (a3.op = (7 : Int)) then some (decide (a3.op = (7 : Int))) else (((bif decide (a3.op = (8 : Int)) then some (decide (a3.op = (8 : Int))) else (((bif decide (a3.op = (9 : Int)) then some (decide (a3.op = (9 : Int))) else (((bif decide (a3.op = (10 : Int)) then some (decide (a3.op = (10 : Int))) else some (decide (a3.op = (17 : Int)))) : Option Bool).bind fun v21 => some (v21))) : Option Bool).bind fun v17 => some (v17))) : Option Bool).bind fun v13 => some (v13))) : Option Bool).bind fun v9 => some (v9))) : Option Bool).bind fun v5 => some (v5))) : Option Bool).bind fun v1 => (((bif v1 then some (.next (decide (a3.a = (0 : Int)), false)) else (((bif decide (a3.op = (2 : Int)) then ((code_numbers_1 N a3.a a2.args).bind fun r35 => some (.next (r35, false))) else (((bif decide (a3.op = (3 : Int)) then some (decide (a3.op = (3 : Int))) else some (decide (a3.op = (11 : Int)))) : Option Bool).bind fun v37 => (((bif v37 then ((code_numbers_1 N a3.a a2.temps).bind fun r46 => some (.next (r46, false))) else (((bif decide (a3.op = (4 : Int)) then some (decide (a3.op = (4 : Int))) else some (decide (a3.op = (12 : Int)))) : Option Bool).bind fun v48 => (((bif v48 then ((class_Slots N a0 a1).bind fun r57 => ((code_numbers_1 N a3.a r57).bind fun r59 => some (.next (r59, false)))) else (((bif decide (a3.op = (5 : Int)) then (((bif decide ((-1073741824 : Int) ≤ a3.a) then some (decide (a3.a ≤ (1073741824 : Int))) else some (false)) : Option Bool).bind fun v66 => some (.next (v66, false))) else (((bif decide (a3.op = (13 : Int)) then (((bif decide (a3.a = (0 : Int)) then some (true) else (bif decide ((4 : Int) ≤ a3.a) then some (decide (a3.a < (a0.classes.length : Int))) else some (false))) : Option Bool).bind fun v75 => some (.next (v75, false))) else (((bif decide (a3.op = (14 : Int)) then ((code_numbers_1 N a3.a (5 : Int)).bind fun r86 => some (.next (r86, true))) else (((bif decide (a3.op = (15 : Int)) then some (decide (a3.op = (15 : Int))) else some (decide (a3.op = (16 : Int)))) : Option Bool).bind fun v88 => (bif v88 then ((code_numbers_1 N a3.a (a2.code.length : Int)).bind fun r94 => some (.next (r94, false))) else some (.ret (1 : Int))))) : Option (Ctl Int (Bool × Bool))).bind fun o => match o with | .ret r => some (.ret r) | .next (v81, v82) => some (.next (v81, v82)))) : Option (Ctl Int (Bool × Bool))).bind fun o => match o with | .ret r => some (.ret r) | .next (v70, v71) => some (.next (v70, v71)))) : Option (Ctl Int (Bool × Bool))).bind fun o => match o with | .ret r => some (.ret r) | .next (v61, v62) => some (.next (v61, v62)))) : Option (Ctl Int (Bool × Bool))).bind fun o => match o with | .ret r => some (.ret r) | .next (v52, v53) => some (.next (v52, v53))))) : Option (Ctl Int (Bool × Bool))).bind fun o => match o with | .ret r => some (.ret r) | .next (v41, v42) => some (.next (v41, v42))))) : Option (Ctl Int (Bool × Bool))).bind fun o => match o with | .ret r => some (.ret r) | .next (v30, v31) => some (.next (v30, v31)))) : Option (Ctl Int (Bool × Bool))).bind fun o => match o with | .ret r => some r | .next (v25, v26) => (bif (!v25) then some (3 : Int) else (((bif v26 then ((class_Name N a3.name).bind fun r101 => (bif (!r101) then some (true) else (bif (!v26) then (bif (!decide (a3.name = (⟨#[]⟩ : ByteArray))) then some (true) else (bif (!decide (a3.b = (0 : Int))) then some (true) else some ((!decide (a3.c = (0 : Int)))))) else (bif (!decide (a3.b = (0 : Int))) then some (true) else some ((!decide (a3.c = (0 : Int)))))))) else (bif (!v26) then (bif (!decide (a3.name = (⟨#[]⟩ : ByteArray))) then some (true) else (bif (!decide (a3.b = (0 : Int))) then some (true) else some ((!decide (a3.c = (0 : Int)))))) else (bif (!decide (a3.b = (0 : Int))) then some (true) else some ((!decide (a3.c = (0 : Int))))))) : Option Bool).bind fun v97 => (bif v97 then some (2 : Int) else some (0 : Int))))))

def code_effect (N : Nat) (a0 : Ins) : Option (Int × Int) :=
  (((bif decide (a0.op = (9 : Int)) then some (decide (a0.op = (9 : Int))) else (((bif decide (a0.op = (11 : Int)) then some (decide (a0.op = (11 : Int))) else (((bif decide (a0.op = (12 : Int)) then some (decide (a0.op = (12 : Int))) else (((bif decide (a0.op = (16 : Int)) then some (decide (a0.op = (16 : Int))) else some (decide (a0.op = (17 : Int)))) : Option Bool).bind fun v13 => some (v13))) : Option Bool).bind fun v9 => some (v9))) : Option Bool).bind fun v5 => some (v5))) : Option Bool).bind fun v1 => (bif v1 then some ((1 : Int), (0 : Int)) else (bif decide (a0.op = (10 : Int)) then some ((1 : Int), (2 : Int)) else (bif decide (a0.op = (14 : Int)) then some ((wr (a0.a + (1 : Int))), (1 : Int)) else (bif decide (a0.op = (15 : Int)) then some ((0 : Int), (0 : Int)) else some ((0 : Int), (1 : Int)))))))

def code_Heights_l1 (N : Nat) : Nat → Nat → (List Int) → Option ((List Int))
  | 0, k4, v5 => some (v5)
  | n12 + 1, k4, v5 => ((nthO v5 (k4 : Int)).bind fun x16 => code_Heights_l1 N n12 (k4 + 1) (v5.set ((k4 : Int).toNat) (-1 : Int)))

def code_Heights_l2 (N : Nat) (a0 : Me) : Nat → (List Int) → (List Arr2Int) → Option (Ctl ((List Int) × TFault) (List Int))
  | 0, _, _ => none
  | n28 + 1, v19, v20 => (bif decide ((0 : Int) < (v20.length : Int)) then ((((nthO v20 (0 : Int)).bind fun x35 => ((nthO v20 (0 : Int)).bind fun x37 => (bif (decide (0 ≤ (1 : Int)) && decide ((1 : Int) ≤ (v20.length : Int))) then (((bif decide (x35.f0 < (0 : Int)) then some (true) else some (decide ((a0.code.length : Int) ≤ x35.f0))) : Option Bool).bind fun v40 => (bif v40 then some (.ret (([] : List Int), (⟨(9 : Int), (a0.code.length : Int)⟩ : TFault))) else ((nthO v19 x35.f0).bind fun x47 => (bif decide ((0 : Int) ≤ x47) then ((nthO v19 x35.f0).bind fun x50 => (bif (!decide (x50 = x37.f1)) then some (.ret (([] : List Int), (⟨(8 : Int), x35.f0⟩ : TFault))) else some (.next (v19, (v20.drop (1 : Int).toNat))))) else ((nthO v19 x35.f0).bind fun x53 => ((nthO a0.code x35.f0).bind fun x55 => ((code_effect N x55).bind fun r57 => (((bif decide (x37.f1 < r57.1) then some (true) else (bif decide (x55.op = (17 : Int)) then some ((!decide (x37.f1 = (1 : Int)))) else some (false))) : Option Bool).bind fun v59 => (bif v59 then some (.ret (([] : List Int), (⟨(8 : Int), x35.f0⟩ : TFault))) else (bif decide ((12 : Int) < (wr (x37.f1 + (wr (r57.2 - r57.1))))) then some (.ret (([] : List Int), (⟨(4 : Int), x35.f0⟩ : TFault))) else (((bif (!decide (x55.op = (15 : Int))) then some ((!decide (x55.op = (17 : Int)))) else some (false)) : Option Bool).bind fun v66 => (((bif v66 then (bif Nat.ble (((v20.drop (1 : Int).toNat).length + [(⟨(wr (x35.f0 + (1 : Int))), (wr (x37.f1 + (wr (r57.2 - r57.1))))⟩ : Arr2Int)].length) * 16) 140737488355328 then some (((v20.drop (1 : Int).toNat) ++ [(⟨(wr (x35.f0 + (1 : Int))), (wr (x37.f1 + (wr (r57.2 - r57.1))))⟩ : Arr2Int)])) else none) else some ((v20.drop (1 : Int).toNat))) : Option (List Arr2Int)).bind fun v70 => (((bif decide (x55.op = (15 : Int)) then some (true) else some (decide (x55.op = (16 : Int)))) : Option Bool).bind fun v75 => (((bif v75 then (bif Nat.ble ((v70.length + [(⟨x55.a, (wr (x37.f1 + (wr (r57.2 - r57.1))))⟩ : Arr2Int)].length) * 16) 140737488355328 then some ((v70 ++ [(⟨x55.a, (wr (x37.f1 + (wr (r57.2 - r57.1))))⟩ : Arr2Int)])) else none) else some (v70)) : Option (List Arr2Int)).bind fun v79 => some (.next ((v19.set x35.f0.toNat x37.f1), v79)))))))))))))))) else none))) : Option (Ctl ((List Int) × TFault) ((List Int) × (List Arr2Int)))).bind fun o => match o with | .ret r => some (.ret r) | .next (v31, v32) => code_Heights_l2 N a0 n28 v31 v32) else some (.next v19))

def code_Heights (N : Nat) (a0 : Me) : Option ((List Int) × TFault) :=
  (bif (decide (0 ≤ (a0.code.length : Int)) && decide ((a0.code.length : Int) ≤ 140737488355328) && decide ((a0.code.length : Int) * 8 ≤ 140737488355328)) then ((code_Heights_l1 N ((((List.replicate (a0.code.length : Int).toNat (0 : Int)).length : Int) - ((0 : Nat) : Int)).toNat) 0 (List.replicate (a0.code.length : Int).toNat (0 : Int))).bind fun v7 => ((code_Heights_l2 N a0 N v7 [(⟨(0 : Int), (0 : Int)⟩ : Arr2Int)]).bind fun o => match o with | .ret r => some r | .next v23 => some (v23, (⟨(0 : Int), (0 : Int)⟩ : TFault)))) else none)

def code_Check_l1 (N : Nat) (a0 : Wd) (a1 : Int) (a2 : Me) : List Ins → Nat → Option (Ctl TFault Unit)
  | [], k26 => some (.next ())
  | x32 :: rest29, k26 => ((code_numbers N a0 a1 a2 x32).bind fun r35 => (bif (!decide (r35 = (0 : Int))) then some (.ret (⟨r35, (k26 : Int)⟩ : TFault)) else code_Check_l1 N a0 a1 a2 rest29 (k26 + 1)))

def code_Check (N : Nat) (a0 : Wd) (a1 : Int) (a2 : Me) : Option TFault :=
  (((bif decide (a1 < (0 : Int)) then some (true) else some (decide ((a0.classes.length : Int) ≤ a1))) : Option Bool).bind fun v1 => (bif v1 then some (⟨(6 : Int), (0 : Int)⟩ : TFault) else ((class_Name N a2.name).bind fun r7 => (bif (!r7) then some (⟨(7 : Int), (0 : Int)⟩ : TFault) else (((bif decide (a2.args < (0 : Int)) then some (true) else (bif decide ((4 : Int) < a2.args) then some (true) else (bif decide (a2.temps < (0 : Int)) then some (true) else some (decide ((6 : Int) < a2.temps))))) : Option Bool).bind fun v10 => (bif v10 then some (⟨(3 : Int), (0 : Int)⟩ : TFault) else (bif (!decide (a2.prim = (0 : Int))) then some (⟨(1 : Int), (0 : Int)⟩ : TFault) else (((bif decide ((a2.code.length : Int) < (1 : Int)) then some (true) else some (decide ((60 : Int) < (a2.code.length : Int)))) : Option Bool).bind fun v18 => (bif v18 then some (⟨(5 : Int), (0 : Int)⟩ : TFault) else ((code_Check_l1 N a0 a1 a2 a2.code 0).bind fun o => match o with | .ret r => some r | .next () => ((code_Heights N a2).bind fun r38 => some r38.2)))))))))))

def qclaw3_CodeTells_l1 (N : Nat) : List Cl → Nat → Option (Ctl Bool Unit)
  | [], k2 => some (.next ())
  | x8 :: rest5, k2 => (((bif decide (x8.slots < (0 : Int)) then some (true) else some (decide ((6 : Int) < x8.slots))) : Option Bool).bind fun v11 => (bif v11 then some (.ret true) else qclaw3_CodeTells_l1 N rest5 (k2 + 1)))

def qclaw3_CodeTells_l2 (N : Nat) (a2 : Me) : List Ins → Nat → Option (Ctl Bool Unit)
  | [], k25 => some (.next ())
  | x31 :: rest28, k25 => (((bif decide (x31.op < (1 : Int)) then some (true) else (bif decide ((17 : Int) < x31.op) then some (true) else (bif decide (x31.op = (14 : Int)) then (bif decide (x31.a < (0 : Int)) then some (true) else (bif decide ((4 : Int) < x31.a) then some (true) else (bif decide (x31.op = (15 : Int)) then some (decide ((a2.code.length : Int) ≤ x31.a)) else (bif decide (x31.op = (16 : Int)) then some (decide ((a2.code.length : Int) ≤ x31.a)) else some (false))))) else (bif decide (x31.op = (15 : Int)) then (bif decide (x31.a < (0 : Int)) then some (true) else some (decide ((a2.code.length : Int) ≤ x31.a))) else (bif decide (x31.op = (16 : Int)) then (bif decide (x31.a < (0 : Int)) then some (true) else some (decide ((a2.code.length : Int) ≤ x31.a))) else some (false)))))) : Option Bool).bind fun v34 => (bif v34 then some (.ret true) else qclaw3_CodeTells_l2 N a2 rest28 (k25 + 1)))

def qclaw3_CodeTells_l3 (N : Nat) (r60 : ((List Int) × TFault)) (r62 : ((List Int) × TFault)) : List Int → Nat → Option (Ctl Bool Unit)
  | [], k72 => some (.next ())
  | x78 :: rest75, k72 => ((nthO r60.1 (k72 : Int)).bind fun x81 => ((nthO r62.1 (k72 : Int)).bind fun x83 => (bif (!decide (x81 = x83)) then some (.ret false) else qclaw3_CodeTells_l3 N r60 r62 rest75 (k72 + 1))))

def qclaw3_CodeTells (N : Nat) (a0 : Wd) (a1 : Int) (a2 : Me) : Option Bool :=
  ((qclaw3_CodeTells_l1 N a0.classes 0).bind fun o => match o with | .ret r => some r | .next () => ((qcref1_Rises N a0).bind fun r16 => (bif (!r16) then some true else ((code_Check N a0 a1 a2).bind fun r19 => ((qcref1_Check N a0 a1 a2).bind fun r21 => (bif (!(eqAs (eTFault r19) (eTFault r21))) then some false else ((qclaw3_CodeTells_l2 N a2 a2.code 0).bind fun o => match o with | .ret r => some r | .next () => (((bif decide ((a2.code.length : Int) = (0 : Int)) then some (true) else some (decide ((1000 : Int) < (a2.code.length : Int)))) : Option Bool).bind fun v53 => (bif v53 then some true else ((code_Heights N a2).bind fun r60 => ((qcref1_Heights N a2).bind fun r62 => (((bif (!(eqAs (eTFault r60.2) (eTFault r62.2))) then some (true) else some ((!decide ((r60.1.length : Int) = (r62.1.length : Int))))) : Option Bool).bind fun v64 => (bif v64 then some false else ((qclaw3_CodeTells_l3 N r60 r62 r60.1 0).bind fun o => match o with | .ret r => some r | .next () => some true))))))))))))))

def qclaw3_alive (N : Nat) : Option Bool :=
  ((code_Heights N (⟨(⟨#[109]⟩ : ByteArray), (0 : Int), (0 : Int), (0 : Int), [(⟨(5 : Int), (5 : Int), (0 : Int), (0 : Int), ByteArray.empty⟩ : Ins), (⟨(17 : Int), (0 : Int), (0 : Int), (0 : Int), ByteArray.empty⟩ : Ins)]⟩ : Me)).bind fun r1 => (((bif decide (r1.2.err = (0 : Int)) then (bif decide ((r1.1.length : Int) = (2 : Int)) then ((nthO r1.1 (1 : Int)).bind fun x9 => (bif decide (x9 = (1 : Int)) then ((qcref1_New N).bind fun r12 => ((code_Check N r12 (0 : Int) (⟨(⟨#[109]⟩ : ByteArray), (0 : Int), (0 : Int), (0 : Int), [(⟨(5 : Int), (5 : Int), (0 : Int), (0 : Int), ByteArray.empty⟩ : Ins), (⟨(17 : Int), (0 : Int), (0 : Int), (0 : Int), ByteArray.empty⟩ : Ins)]⟩ : Me)).bind fun r14 => (bif decide (r14.err = (0 : Int)) then ((qcref1_New N).bind fun r17 => (bif (decide (0 ≤ (1 : Int)) && decide ((1 : Int) ≤ ([(⟨(5 : Int), (5 : Int), (0 : Int), (0 : Int), ByteArray.empty⟩ : Ins), (⟨(17 : Int), (0 : Int), (0 : Int), (0 : Int), ByteArray.empty⟩ : Ins)].length : Int))) then ((code_Check N r17 (0 : Int) (⟨(⟨#[109]⟩ : ByteArray), (0 : Int), (0 : Int), (0 : Int), ([(⟨(5 : Int), (5 : Int), (0 : Int), (0 : Int), ByteArray.empty⟩ : Ins), (⟨(17 : Int), (0 : Int), (0 : Int), (0 : Int), ByteArray.empty⟩ : Ins)].take (1 : Int).toNat)⟩ : Me)).bind fun r20 => some ((eqAs (eTFault r20) [.int (9 : Int), .int (1 : Int)]))) else none)) else some (false)))) else some (false))) else some (false)) else some (false)) : Option Bool).bind fun v3 => some v3))

def qclaw3_CodeWays_l2 (N : Nat) (r7 : ((List Int) × TFault)) (k20 : Nat) (r34 : (Int × Int × (List Int))) : List Int → Nat → Option (Ctl Bool Unit)
  | [], k50 => some (.next ())
  | x56 :: rest53, k50 => ((nthO r34.2.2 (k50 : Int)).bind fun x59 => (((bif decide (x59 < (0 : Int)) then some (true) else (bif decide ((r7.1.length : Int) ≤ x59) then some (true) else ((nthO r7.1 x59).bind fun x67 => ((nthO r7.1 (k20 : Int)).bind fun x69 => some ((!decide (x67 = (wr (x69 + r34.2.1))))))))) : Option Bool).bind fun v61 => (bif v61 then some (.ret false) else qclaw3_CodeWays_l2 N r7 k20 r34 rest53 (k50 + 1))))

def qclaw3_CodeWays_l1 (N : Nat) (r7 : ((List Int) × TFault)) : List Ins → Nat → Option (Ctl Bool Unit)
  | [], k20 => some (.next ())
  | x26 :: rest23, k20 => ((((nthO r7.1 (k20 : Int)).bind fun x31 => (bif decide (x31 < (0 : Int)) then some (.next ()) else ((qcref1_Next N x26 (k20 : Int)).bind fun r34 => ((((nthO r7.1 (k20 : Int)).bind fun x39 => (bif decide (x39 < r34.1) then some (true) else ((nthO r7.1 (k20 : Int)).bind fun x42 => (bif decide ((12 : Int) < x42) then some (true) else (bif decide (x26.op = (17 : Int)) then ((nthO r7.1 (k20 : Int)).bind fun x46 => some ((!decide (x46 = (1 : Int))))) else some (false)))))) : Option Bool).bind fun v36 => (bif v36 then some (.ret false) else ((qclaw3_CodeWays_l2 N r7 k20 r34 r34.2.2 0).bind fun o => match o with | .ret r => some (.ret r) | .next () => some (.next ()))))))) : Option (Ctl Bool Unit)).bind fun o => match o with | .ret r => some (.ret r) | .next () => qclaw3_CodeWays_l1 N r7 rest23 (k20 + 1))

def qclaw3_CodeWays (N : Nat) (a0 : Wd) (a1 : Int) (a2 : Me) : Option Bool :=
  ((qclaw3_alive N).bind fun r1 => (bif (!r1) then some false else ((code_Check N a0 a1 a2).bind fun r4 => (bif (!decide (r4.err = (0 : Int))) then some true else ((code_Heights N a2).bind fun r7 => (((bif (!decide (r7.2.err = (0 : Int))) then some (true) else (bif (!decide ((r7.1.length : Int) = (a2.code.length : Int))) then some (true) else ((nthO r7.1 (0 : Int)).bind fun x16 => some ((!decide (x16 = (0 : Int))))))) : Option Bool).bind fun v9 => (bif v9 then some false else ((qclaw3_CodeWays_l1 N r7 a2.code 0).bind fun o => match o with | .ret r => some r | .next () => some true))))))))

def qclaw3_CodeCut (N : Nat) (a0 : Wd) (a1 : Int) (a2 : Me) : Option Bool :=
  ((qclaw3_alive N).bind fun r1 => (bif (!r1) then some false else ((code_Check N a0 a1 a2).bind fun r4 => (bif (!decide (r4.err = (0 : Int))) then some true else ((code_Heights N a2).bind fun r7 => (((bif (!decide ((r7.1.length : Int) = (a2.code.length : Int))) then some (true) else ((nthO r7.1 (wr ((a2.code.length : Int) - (1 : Int)))).bind fun x16 => some (decide (x16 < (0 : Int))))) : Option Bool).bind fun v10 => (bif v10 then some (decide ((r7.1.length : Int) = (a2.code.length : Int))) else (bif (decide (0 ≤ (wr ((a2.code.length : Int) - (1 : Int)))) && decide ((wr ((a2.code.length : Int) - (1 : Int))) ≤ (a2.code.length : Int))) then ((code_Check N a0 a1 (⟨a2.name, a2.args, a2.temps, a2.prim, (a2.code.take (wr ((a2.code.length : Int) - (1 : Int))).toNat)⟩ : Me)).bind fun r22 => some (!decide (r22.err = (0 : Int)))) else none))))))))

def qctop_Names_l1 (N : Nat) : List Int → Nat → Option (Ctl Bool Unit)
  | [], k2 => some (.next ())
  | x8 :: rest5, k2 => ((nthO [(0 : Int), (1 : Int), (2 : Int), (3 : Int), (4 : Int), (5 : Int), (6 : Int), (7 : Int), (8 : Int), (9 : Int), (10 : Int), (11 : Int), (12 : Int), (13 : Int), (14 : Int), (15 : Int), (16 : Int)] (k2 : Int)).bind fun x11 => (bif (!decide (x11 = (k2 : Int))) then some (.ret false) else qctop_Names_l1 N rest5 (k2 + 1)))

def qctop_Names_l2 (N : Nat) : List Int → Nat → Option (Ctl Bool Unit)
  | [], k15 => some (.next ())
  | x21 :: rest18, k15 => ((nthO [(0 : Int), (1 : Int), (2 : Int), (3 : Int), (4 : Int), (0 : Int), (1 : Int), (2 : Int), (3 : Int), (4 : Int), (1 : Int), (2 : Int), (3 : Int), (4 : Int), (5 : Int), (6 : Int), (7 : Int), (8 : Int), (9 : Int), (10 : Int), (11 : Int), (12 : Int), (13 : Int), (14 : Int), (15 : Int), (16 : Int), (17 : Int), (18 : Int), (19 : Int), (20 : Int), (21 : Int), (0 : Int), (1 : Int), (2 : Int), (3 : Int), (4 : Int), (5 : Int), (12 : Int), (8 : Int), (6 : Int), (60 : Int), (60 : Int), (240 : Int), (40 : Int), (12 : Int), (6 : Int), (4 : Int), (12 : Int), (1073741824 : Int), (400 : Int), (20 : Int), (300 : Int), (1 : Int), (2 : Int), (3 : Int), (4 : Int), (5 : Int), (6 : Int), (7 : Int), (8 : Int), (3 : Int), (60 : Int)] (k15 : Int)).bind fun x24 => ((nthO [(0 : Int), (1 : Int), (2 : Int), (3 : Int), (4 : Int), (0 : Int), (1 : Int), (2 : Int), (3 : Int), (4 : Int), (1 : Int), (2 : Int), (3 : Int), (4 : Int), (5 : Int), (6 : Int), (7 : Int), (8 : Int), (9 : Int), (10 : Int), (11 : Int), (12 : Int), (13 : Int), (14 : Int), (15 : Int), (16 : Int), (17 : Int), (18 : Int), (19 : Int), (20 : Int), (21 : Int), (0 : Int), (1 : Int), (2 : Int), (3 : Int), (4 : Int), (5 : Int), (12 : Int), (8 : Int), (6 : Int), (60 : Int), (60 : Int), (240 : Int), (40 : Int), (12 : Int), (6 : Int), (4 : Int), (12 : Int), (1073741824 : Int), (400 : Int), (20 : Int), (300 : Int), (1 : Int), (2 : Int), (3 : Int), (4 : Int), (5 : Int), (6 : Int), (7 : Int), (8 : Int), (3 : Int), (60 : Int)] (k15 : Int)).bind fun x26 => (bif (!decide (x24 = x26)) then some (.ret false) else qctop_Names_l2 N rest18 (k15 + 1))))

def qctop_Names (N : Nat) : Option Bool :=
  ((qctop_Names_l1 N [(0 : Int), (1 : Int), (2 : Int), (3 : Int), (4 : Int), (5 : Int), (6 : Int), (7 : Int), (8 : Int), (9 : Int), (10 : Int), (11 : Int), (12 : Int), (13 : Int), (14 : Int), (15 : Int), (16 : Int)] 0).bind fun o => match o with | .ret r => some r | .next () => ((qctop_Names_l2 N [(0 : Int), (1 : Int), (2 : Int), (3 : Int), (4 : Int), (0 : Int), (1 : Int), (2 : Int), (3 : Int), (4 : Int), (1 : Int), (2 : Int), (3 : Int), (4 : Int), (5 : Int), (6 : Int), (7 : Int), (8 : Int), (9 : Int), (10 : Int), (11 : Int), (12 : Int), (13 : Int), (14 : Int), (15 : Int), (16 : Int), (17 : Int), (18 : Int), (19 : Int), (20 : Int), (21 : Int), (0 : Int), (1 : Int), (2 : Int), (3 : Int), (4 : Int), (5 : Int), (12 : Int), (8 : Int), (6 : Int), (60 : Int), (60 : Int), (240 : Int), (40 : Int), (12 : Int), (6 : Int), (4 : Int), (12 : Int), (1073741824 : Int), (400 : Int), (20 : Int), (300 : Int), (1 : Int), (2 : Int), (3 : Int), (4 : Int), (5 : Int), (6 : Int), (7 : Int), (8 : Int), (3 : Int), (60 : Int)] 0).bind fun o => match o with | .ret r => some r | .next () => some true))
end Go.Proofs.Ytioalgofaiideaa
