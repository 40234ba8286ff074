/- Walks after the mirrors. Printed by mir.py. -/
import Derived.Test.YtioalgofaiideaaWk2
namespace Go.Proofs.Ytioalgofaiideaa
open Go.RowKit
set_option linter.unusedVariables false
/- value.New -/
set_option maxRecDepth 100000 in
set_option maxHeartbeats 1000000 in
theorem value_New_ok (N : Nat) (a0 : (List Ob)) (a1 : Int) (a2 : Int) (r : ((List Ob) × V × Int)) (h : value_New N a0 a1 a2 = some r) : Spec Try.prog 32 [] [.sl 2 (List.map eOb a0), .int a1, .int a2] (.tup [.own 0, .agg (eV r.2.1), .int r.2.2]) [(0, .row 2 (List.map eOb r.1) 60)] [0] := by
  refine Spec.of tabOk Try.func32 rfl Try.ntmps32 (by kernel_rfl) rfl rfl rfl fun Γ hn => ?_
  unfold value_New at h
  refine COk.seqQ fun Q7 qn7 qx7 qr7 => ?_
  refine gor hn ?_
  refine qn7 _ _ ?_
  refine COk.seqQ fun Q8 qn8 qx8 qr8 => ?_
  refine COk.seqQ fun Q9 qn9 qx9 qr9 => ?_
  refine gor hn ?_
  refine lenM (fun hl1 => ?_)
  refine qn9 _ _ ?_
  refine goc hn ?_
  refine bselM h (fun hb2 h => ?_) (fun hb2 h => ?_)
  · refine COk.seqQ fun Q11 qn11 qx11 qr11 => ?_
    refine gor hn ?_
    refine qn11 _ _ ?_
    refine COk.nilrow 6 206 2 60 rfl rfl rfl ?_
    refine got hn ?_
    refine qr8 _ _ ?_
    obtain rfl := Option.some.inj h
    exact ⟨[(0, 206)], _, rfl, (by repeat (first | exact trivial | exact rfl | (refine And.intro ?_ ?_))), ⟨rfl, trivial⟩, rfl, rfl, rfl, rfl, rfl⟩
  · refine gok hn ?_
    refine qn8 _ _ ?_
    refine COk.seqQ fun Q12 qn12 qx12 qr12 => ?_
    refine god hn (by kernel_rfl) ?_
    obtain ⟨r3, hr4, h⟩ := bindM h
    show CallOk Try.prog _ _ _ _
    refine CallOk.as ((value_Own_ok N a0 r3 hr4).sw 0 14) (by repeat (first | exact trivial | exact rfl | (refine And.intro ?_ ?_))) trivial rfl ?_
    obtain ⟨hg5, h⟩ := guardM h
    refine mkM (enc := eV) (x := (⟨(0 : Int), (0 : Int)⟩ : V)) hg5 (by repeat (first | exact trivial | exact rfl | (refine And.intro ?_ ?_))) ?_
    refine Exists.intro (List.map eOb [(⟨a1, (List.replicate (max a2 (0 : Int)).toNat (⟨(0 : Int), (0 : Int)⟩ : V))⟩ : Ob)]) (And.intro (by repeat (first | exact trivial | exact rfl | (refine And.intro ?_ ?_))) ?_)
    obtain ⟨hg6, h⟩ := guardM h
    refine appM (l2 := [(⟨a1, (List.replicate (max a2 (0 : Int)).toNat (⟨(0 : Int), (0 : Int)⟩ : V))⟩ : Ob)]) hg6 (leLs_refl _) ?_
    refine lenM (fun hl7 => ?_)
    refine qn12 _ _ ?_
    refine got hn ?_
    obtain rfl := Option.some.inj h
    exact ⟨[(0, 21)], _, rfl, (by repeat (first | exact trivial | exact rfl | (refine And.intro ?_ ?_))), ⟨rfl, trivial⟩, rfl, rfl, rfl, rfl, rfl⟩

/- value.Prim$1 -/
set_option maxRecDepth 100000 in
set_option maxHeartbeats 1000000 in
theorem value_Prim_1_ok (N : Nat) (a0 : Int) (r : V) (h : value_Prim_1 N a0 = some r) : Spec Try.prog 62 [] [.int a0] (.agg (eV r)) [] [] := by
  refine Spec.of tabOk Try.func62 rfl Try.ntmps62 (by kernel_rfl) rfl rfl rfl fun Γ hn => ?_
  unfold value_Prim_1 at h
  refine COk.seqQ fun Q3 qn3 qx3 qr3 => ?_
  refine gor hn ?_
  refine qn3 _ _ ?_
  refine COk.seqQ fun Q4 qn4 qx4 qr4 => ?_
  refine gor hn ?_
  obtain ⟨hg1, h⟩ := guardM h
  refine remM hg1 ?_
  refine qn4 _ _ ?_
  refine got hn ?_
  obtain rfl := Option.some.inj h
  exact ⟨[], _, rfl, (by repeat (first | exact trivial | exact rfl | (refine And.intro ?_ ?_))), trivial, rfl, rfl, rfl, rfl, rfl⟩

/- value.Prim -/
set_option maxRecDepth 100000 in
set_option maxHeartbeats 1000000 in
theorem value_Prim_ok (N : Nat) (a0 : Int) (a1 : V) (a2 : V) (r : (V × Int)) (h : value_Prim N a0 a1 a2 = some r) : Spec Try.prog 33 [] [.int a0, .agg (eV a1), .agg (eV a2)] (.tup [.agg (eV r.1), .int r.2]) [] [] := by
  refine Spec.of tabOk Try.func33 rfl Try.ntmps33 (by kernel_rfl) rfl rfl rfl fun Γ hn => ?_
  unfold value_Prim at h
  refine COk.seqQ fun Q199 qn199 qx199 qr199 => ?_
  refine gor hn ?_
  refine qn199 _ _ ?_
  refine COk.seqQ fun Q200 qn200 qx200 qr200 => ?_
  refine COk.seqQ fun Q201 qn201 qx201 qr201 => ?_
  obtain ⟨o3, h2, h⟩ := bindM h
  refine COk.joinR (ι := { s : Bool // o3 = s }) (fun s => [(0, .int a0), (4, .ptr 4 0), (5, .ptr 5 0), (6, .ptr 6 0), (16, .bool s.1)]) (fun s => [(4, .box (eV a1) 45), (5, .box (eV a2) 45), (6, .box [.int (0 : Int), .int (0 : Int)] 45)]) (fun Q202 qn202 qx202 qr202 => ?_) (by intro s; rw [hn]; rfl) ?_
  · refine gor hn ?_
    refine bselM h2 (fun hb4 h2 => ?_) (fun hb4 h2 => ?_)
    · refine bselT hb4 ?_
      refine bselT hb4 ?_
      refine bselT hb4 ?_
      refine qn202 _ _ ?_
      obtain rfl := Option.some.inj h2
      refine EOk.done ?_
      exact ⟨⟨_, rfl⟩, [], trivial, ⟨⟨rfl, rfl, rfl, rfl, rfl, trivial⟩, ⟨rfl, rfl, rfl, trivial⟩, rfl, rfl⟩⟩
    · refine bselF hb4 ?_
      refine bselF hb4 ?_
      refine bselF hb4 ?_
      refine qn202 _ _ ?_
      obtain rfl := Option.some.inj h2
      refine EOk.done ?_
      exact ⟨⟨_, rfl⟩, [], trivial, ⟨⟨rfl, rfl, rfl, rfl, rfl, trivial⟩, ⟨rfl, rfl, rfl, trivial⟩, rfl, rfl⟩⟩
  rintro ⟨v1, hv_⟩
  replace hv_ := hv_.symm
  subst hv_
  refine qn201 _ _ ?_
  refine goc hn ?_
  refine bselM h (fun hb5 h => ?_) (fun hb5 h => ?_)
  · refine COk.seqQ fun Q204 qn204 qx204 qr204 => ?_
    refine gor hn ?_
    refine qn204 _ _ ?_
    refine got hn ?_
    refine qr200 _ _ ?_
    obtain rfl := Option.some.inj h
    exact ⟨[], _, rfl, (by repeat (first | exact trivial | exact rfl | (refine And.intro ?_ ?_))), trivial, rfl, rfl, rfl, rfl, rfl⟩
  · refine gok hn ?_
    refine qn200 _ _ ?_
    refine COk.seqQ fun Q205 qn205 qx205 qr205 => ?_
    refine gor hn ?_
    refine qn205 _ _ ?_
    refine COk.seqQ fun Q206 qn206 qx206 qr206 => ?_
    refine COk.seqQ fun Q207 qn207 qx207 qr207 => ?_
    refine gor hn ?_
    refine qn207 _ _ ?_
    refine COk.blkQ fun Q302 qn302 qe302 qx302 qr302 => ?_
    refine COk.seqQ fun Q303 qn303 qx303 qr303 => ?_
    refine gor hn ?_
    refine qn303 _ _ ?_
    refine goc hn ?_
    refine bselM h (fun hb6 h => ?_) (fun hb6 h => ?_)
    · refine COk.seqQ fun Q350 qn350 qx350 qr350 => ?_
      refine gor hn ?_
      refine Or.inr ?_
      obtain ⟨r7, hr8, h⟩ := bindM h
      show CallOk Try.prog _ _ _ _
      refine CallOk.as (value_Prim_1_ok N (wr (a1.n + a2.n)) r7 hr8) (by repeat (first | exact trivial | exact rfl | (refine And.intro ?_ ?_))) trivial rfl ?_
      refine qn350 _ _ ?_
      refine got hn ?_
      refine qr302 _ _ ?_
      refine qr206 _ _ ?_
      obtain rfl := Option.some.inj h
      exact ⟨[], _, rfl, (by repeat (first | exact trivial | exact rfl | (refine And.intro ?_ ?_))), trivial, rfl, rfl, rfl, rfl, rfl⟩
    · refine COk.seqQ fun Q351 qn351 qx351 qr351 => ?_
      refine gor hn ?_
      refine qn351 _ _ ?_
      refine goc hn ?_
      refine bselM h (fun hb9 h => ?_) (fun hb9 h => ?_)
      · refine COk.seqQ fun Q374 qn374 qx374 qr374 => ?_
        refine gor hn ?_
        refine Or.inr ?_
        obtain ⟨r10, hr11, h⟩ := bindM h
        show CallOk Try.prog _ _ _ _
        refine CallOk.as (value_Prim_1_ok N (wr (a1.n - a2.n)) r10 hr11) (by repeat (first | exact trivial | exact rfl | (refine And.intro ?_ ?_))) trivial rfl ?_
        refine qn374 _ _ ?_
        refine got hn ?_
        refine qr302 _ _ ?_
        refine qr206 _ _ ?_
        obtain rfl := Option.some.inj h
        exact ⟨[], _, rfl, (by repeat (first | exact trivial | exact rfl | (refine And.intro ?_ ?_))), trivial, rfl, rfl, rfl, rfl, rfl⟩
      · refine COk.seqQ fun Q375 qn375 qx375 qr375 => ?_
        refine gor hn ?_
        refine qn375 _ _ ?_
        refine goc hn ?_
        refine bselM h (fun hb12 h => ?_) (fun hb12 h => ?_)
        · refine COk.seqQ fun Q386 qn386 qx386 qr386 => ?_
          refine gor hn ?_
          refine Or.inr ?_
          obtain ⟨r13, hr14, h⟩ := bindM h
          show CallOk Try.prog _ _ _ _
          refine CallOk.as (value_Prim_1_ok N (wr (a1.n * a2.n)) r13 hr14) (by repeat (first | exact trivial | exact rfl | (refine And.intro ?_ ?_))) trivial rfl ?_
          refine qn386 _ _ ?_
          refine got hn ?_
          refine qr302 _ _ ?_
          refine qr206 _ _ ?_
          obtain rfl := Option.some.inj h
          exact ⟨[], _, rfl, (by repeat (first | exact trivial | exact rfl | (refine And.intro ?_ ?_))), trivial, rfl, rfl, rfl, rfl, rfl⟩
        · refine COk.seqQ fun Q387 qn387 qx387 qr387 => ?_
          refine gor hn ?_
          refine qn387 _ _ ?_
          refine goc hn ?_
          refine bselM h (fun hb15 h => ?_) (fun hb15 h => ?_)
          · refine COk.seqQ fun Q392 qn392 qx392 qr392 => ?_
            refine gor hn ?_
            obtain ⟨r16, hr17, h⟩ := bindM h
            show CallOk Try.prog _ _ _ _
            refine CallOk.as (value_Bool_ok N (decide (a1.n < a2.n)) r16 hr17) (by repeat (first | exact trivial | exact rfl | (refine And.intro ?_ ?_))) trivial rfl ?_
            refine qn392 _ _ ?_
            refine got hn ?_
            refine qr302 _ _ ?_
            refine qr206 _ _ ?_
            obtain rfl := Option.some.inj h
            exact ⟨[], _, rfl, (by repeat (first | exact trivial | exact rfl | (refine And.intro ?_ ?_))), trivial, rfl, rfl, rfl, rfl, rfl⟩
          · refine COk.seqQ fun Q393 qn393 qx393 qr393 => ?_
            refine gor hn ?_
            refine qn393 _ _ ?_
            refine goc hn ?_
            refine bselM h (fun hb18 h => ?_) (fun hb18 h => ?_)
            · refine COk.seqQ fun Q395 qn395 qx395 qr395 => ?_
              refine COk.sub (ts2 := [(4, .ptr 4 0), (5, .ptr 5 0), (6, .ptr 6 0)]) (os2 := [(4, .box (eV a1) 45), (5, .box (eV a2) 45), (6, .box [.int (0 : Int), .int (0 : Int)] 45)]) [] ⟨⟨rfl, rfl, rfl, trivial⟩, ⟨rfl, rfl, rfl, trivial⟩, rfl, rfl⟩ (by rw [hn]; rfl) ?_
              refine gor hn ?_
              obtain ⟨r19, hr20, h⟩ := bindM h
              show CallOk Try.prog _ _ _ _
              refine CallOk.as (value_Bool_ok N (decide (a1.n = a2.n)) r19 hr20) (by repeat (first | exact trivial | exact rfl | (refine And.intro ?_ ?_))) trivial rfl ?_
              refine qn395 _ _ ?_
              refine got hn ?_
              refine qr302 _ _ ?_
              refine qr206 _ _ ?_
              obtain rfl := Option.some.inj h
              exact ⟨[], _, rfl, (by repeat (first | exact trivial | exact rfl | (refine And.intro ?_ ?_))), trivial, rfl, rfl, rfl, rfl, rfl⟩
            · refine gok hn ?_
              refine qn302 _ _ ?_
              refine qn206 _ _ ?_
              refine COk.seqQ fun Q396 qn396 qx396 qr396 => ?_
              refine COk.sub (ts2 := [(6, .ptr 6 0)]) (os2 := [(6, .box [.int (0 : Int), .int (0 : Int)] 45)]) [] ⟨⟨rfl, trivial⟩, ⟨rfl, trivial⟩, rfl, rfl⟩ (by rw [hn]; rfl) ?_
              refine gor hn ?_
              refine qn396 _ _ ?_
              refine got hn ?_
              obtain rfl := Option.some.inj h
              exact ⟨[], _, rfl, (by repeat (first | exact trivial | exact rfl | (refine And.intro ?_ ?_))), trivial, rfl, rfl, rfl, rfl, rfl⟩

/- qcref1.Prim -/
set_option maxRecDepth 100000 in
set_option maxHeartbeats 1000000 in
theorem qcref1_Prim_ok (N : Nat) (a0 : Int) (a1 : V) (a2 : V) (r : (V × Int)) (h : qcref1_Prim N a0 a1 a2 = some r) : Spec Try.prog 34 [] [.int a0, .agg (eV a1), .agg (eV a2)] (.tup [.agg (eV r.1), .int r.2]) [] [] := by
  refine Spec.of tabOk Try.func34 rfl Try.ntmps34 (by kernel_rfl) rfl rfl rfl fun Γ hn => ?_
  unfold qcref1_Prim at h
  refine COk.seqQ fun Q520 qn520 qx520 qr520 => ?_
  refine gor hn ?_
  refine qn520 _ _ ?_
  refine COk.seqQ fun Q521 qn521 qx521 qr521 => ?_
  refine COk.seqQ fun Q522 qn522 qx522 qr522 => ?_
  obtain ⟨o3, h2, h⟩ := bindM h
  refine COk.joinR (ι := { s : Bool // o3 = s }) (fun s => [(0, .int a0), (4, .ptr 4 0), (5, .ptr 5 0), (6, .ptr 6 0), (17, .bool s.1)]) (fun s => [(4, .box (eV a1) 45), (5, .box (eV a2) 45), (6, .box [.int (0 : Int), .int (0 : Int)] 45)]) (fun Q523 qn523 qx523 qr523 => ?_) (by intro s; rw [hn]; rfl) ?_
  · refine gor hn ?_
    refine bselM h2 (fun hb4 h2 => ?_) (fun hb4 h2 => ?_)
    · refine bselT hb4 ?_
      refine bselT hb4 ?_
      refine bselT hb4 ?_
      refine qn523 _ _ ?_
      obtain rfl := Option.some.inj h2
      refine EOk.done ?_
      exact ⟨⟨_, rfl⟩, [], trivial, ⟨⟨rfl, rfl, rfl, rfl, rfl, trivial⟩, ⟨rfl, rfl, rfl, trivial⟩, rfl, rfl⟩⟩
    · refine bselF hb4 ?_
      refine bselF hb4 ?_
      refine bselF hb4 ?_
      refine qn523 _ _ ?_
      obtain rfl := Option.some.inj h2
      refine EOk.done ?_
      exact ⟨⟨_, rfl⟩, [], trivial, ⟨⟨rfl, rfl, rfl, rfl, rfl, trivial⟩, ⟨rfl, rfl, rfl, trivial⟩, rfl, rfl⟩⟩
  rintro ⟨v1, hv_⟩
  replace hv_ := hv_.symm
  subst hv_
  refine qn522 _ _ ?_
  refine goc hn ?_
  refine bselM h (fun hb5 h => ?_) (fun hb5 h => ?_)
  · refine COk.seqQ fun Q525 qn525 qx525 qr525 => ?_
    refine gor hn ?_
    refine qn525 _ _ ?_
    refine got hn ?_
    refine qr521 _ _ ?_
    obtain rfl := Option.some.inj h
    exact ⟨[], _, rfl, (by repeat (first | exact trivial | exact rfl | (refine And.intro ?_ ?_))), trivial, rfl, rfl, rfl, rfl, rfl⟩
  · refine gok hn ?_
    refine qn521 _ _ ?_
    refine COk.seqQ fun Q526 qn526 qx526 qr526 => ?_
    refine gor hn ?_
    refine qn526 _ _ ?_
    refine COk.seqQ fun Q527 qn527 qx527 qr527 => ?_
    refine COk.seqQ fun Q528 qn528 qx528 qr528 => ?_
    refine gor hn ?_
    refine qn528 _ _ ?_
    refine COk.blkQ fun Q781 qn781 qe781 qx781 qr781 => ?_
    refine COk.seqQ fun Q782 qn782 qx782 qr782 => ?_
    refine gor hn ?_
    refine qn782 _ _ ?_
    obtain ⟨o8, h7, h⟩ := bindM h
    refine COk.joinR (ι := { s : Int // o8 = Ctl.next s }) (fun s => [(6, .ptr 6 0), (8, .int s.1)]) (fun s => [(6, .box [.int (0 : Int), .int (0 : Int)] 45)]) (fun Q949 qn949 qx949 qr949 => ?_) (by intro s; rw [hn]; rfl) ?_
    · refine goc hn ?_
      refine bselM h7 (fun hb9 h7 => ?_) (fun hb9 h7 => ?_)
      · refine gor hn ?_
        refine Or.inr ?_
        refine qn949 _ _ ?_
        obtain rfl := Option.some.inj h7
        refine EOk.done ?_
        exact ⟨⟨_, rfl⟩, [], trivial, ⟨⟨rfl, rfl, trivial⟩, ⟨rfl, trivial⟩, rfl, rfl⟩⟩
      · refine COk.seqQ fun Q950 qn950 qx950 qr950 => ?_
        refine gor hn ?_
        refine qn950 _ _ ?_
        obtain ⟨o12, h11, h7⟩ := bindM h7
        refine COk.joinR (ι := { s : Int // o12 = Ctl.next s }) (fun s => [(6, .ptr 6 0), (8, .int s.1)]) (fun s => [(6, .box [.int (0 : Int), .int (0 : Int)] 45)]) (fun Q1005 qn1005 qx1005 qr1005 => ?_) (by intro s; rw [hn]; rfl) ?_
        · refine goc hn ?_
          refine bselM h11 (fun hb13 h11 => ?_) (fun hb13 h11 => ?_)
          · refine gor hn ?_
            refine Or.inr ?_
            refine qn1005 _ _ ?_
            obtain rfl := Option.some.inj h11
            refine EOk.done ?_
            exact ⟨⟨_, rfl⟩, [], trivial, ⟨⟨rfl, rfl, trivial⟩, ⟨rfl, trivial⟩, rfl, rfl⟩⟩
          · refine COk.seqQ fun Q1006 qn1006 qx1006 qr1006 => ?_
            refine gor hn ?_
            refine qn1006 _ _ ?_
            refine goc hn ?_
            refine bselM h11 (fun hb14 h11 => ?_) (fun hb14 h11 => ?_)
            · refine gor hn ?_
              refine Or.inr ?_
              refine qn1005 _ _ ?_
              obtain rfl := Option.some.inj h11
              refine EOk.done ?_
              exact ⟨⟨_, rfl⟩, [], trivial, ⟨⟨rfl, rfl, trivial⟩, ⟨rfl, trivial⟩, rfl, rfl⟩⟩
            · refine COk.seqQ fun Q1020 qn1020 qx1020 qr1020 => ?_
              refine gor hn ?_
              refine qn1020 _ _ ?_
              refine goc hn ?_
              refine bselM h11 (fun hb15 h11 => ?_) (fun hb15 h11 => ?_)
              · refine COk.seqQ fun Q1027 qn1027 qx1027 qr1027 => ?_
                refine gor hn ?_
                obtain ⟨r16, hr17, h11⟩ := bindM h11
                show CallOk Try.prog _ _ _ _
                refine CallOk.as (qcref1_Bool_ok N (decide (a1.n < a2.n)) r16 hr17) (by repeat (first | exact trivial | exact rfl | (refine And.intro ?_ ?_))) trivial rfl ?_
                refine qn1027 _ _ ?_
                refine got hn ?_
                refine qr1005 _ _ ?_
                refine qr949 _ _ ?_
                refine qr781 _ _ ?_
                refine qr527 _ _ ?_
                obtain rfl := Option.some.inj h11
                obtain rfl := Option.some.inj h7
                obtain rfl := Option.some.inj h
                exact ⟨[], _, rfl, (by repeat (first | exact trivial | exact rfl | (refine And.intro ?_ ?_))), trivial, rfl, rfl, rfl, rfl, rfl⟩
              · refine COk.seqQ fun Q1028 qn1028 qx1028 qr1028 => ?_
                refine gor hn ?_
                refine qn1028 _ _ ?_
                refine goc hn ?_
                refine bselM h11 (fun hb18 h11 => ?_) (fun hb18 h11 => ?_)
                · refine COk.seqQ fun Q1031 qn1031 qx1031 qr1031 => ?_
                  refine COk.sub (ts2 := [(4, .ptr 4 0), (5, .ptr 5 0), (6, .ptr 6 0)]) (os2 := [(4, .box (eV a1) 45), (5, .box (eV a2) 45), (6, .box [.int (0 : Int), .int (0 : Int)] 45)]) [] ⟨⟨rfl, rfl, rfl, trivial⟩, ⟨rfl, rfl, rfl, trivial⟩, rfl, rfl⟩ (by rw [hn]; rfl) ?_
                  refine gor hn ?_
                  obtain ⟨r19, hr20, h11⟩ := bindM h11
                  show CallOk Try.prog _ _ _ _
                  refine CallOk.as (qcref1_Bool_ok N (decide (a1.n = a2.n)) r19 hr20) (by repeat (first | exact trivial | exact rfl | (refine And.intro ?_ ?_))) trivial rfl ?_
                  refine qn1031 _ _ ?_
                  refine got hn ?_
                  refine qr1005 _ _ ?_
                  refine qr949 _ _ ?_
                  refine qr781 _ _ ?_
                  refine qr527 _ _ ?_
                  obtain rfl := Option.some.inj h11
                  obtain rfl := Option.some.inj h7
                  obtain rfl := Option.some.inj h
                  exact ⟨[], _, rfl, (by repeat (first | exact trivial | exact rfl | (refine And.intro ?_ ?_))), trivial, rfl, rfl, rfl, rfl, rfl⟩
                · refine COk.seqQ fun Q1032 qn1032 qx1032 qr1032 => ?_
                  refine COk.sub (ts2 := [(6, .ptr 6 0)]) (os2 := [(6, .box [.int (0 : Int), .int (0 : Int)] 45)]) [] ⟨⟨rfl, trivial⟩, ⟨rfl, trivial⟩, rfl, rfl⟩ (by rw [hn]; rfl) ?_
                  refine gor hn ?_
                  refine qn1032 _ _ ?_
                  refine got hn ?_
                  refine qr1005 _ _ ?_
                  refine qr949 _ _ ?_
                  refine qr781 _ _ ?_
                  refine qr527 _ _ ?_
                  obtain rfl := Option.some.inj h11
                  obtain rfl := Option.some.inj h7
                  obtain rfl := Option.some.inj h
                  exact ⟨[], _, rfl, (by repeat (first | exact trivial | exact rfl | (refine And.intro ?_ ?_))), trivial, rfl, rfl, rfl, rfl, rfl⟩
        rintro ⟨v10, rfl⟩
        refine qn949 _ _ ?_
        obtain rfl := Option.some.inj h7
        refine EOk.done ?_
        exact ⟨⟨_, rfl⟩, [], trivial, ⟨⟨rfl, rfl, trivial⟩, ⟨rfl, trivial⟩, rfl, rfl⟩⟩
    rintro ⟨v6, rfl⟩
    refine qn781 _ _ ?_
    refine qn527 _ _ ?_
    refine COk.seqQ fun Q1033 qn1033 qx1033 qr1033 => ?_
    refine gor hn ?_
    refine qn1033 _ _ ?_
    refine COk.seqQ fun Q1034 qn1034 qx1034 qr1034 => ?_
    refine COk.seqQ fun Q1035 qn1035 qx1035 qr1035 => ?_
    refine gor hn ?_
    refine qn1035 _ _ ?_
    refine goc hn ?_
    refine bselM h (fun hb21 h => ?_) (fun hb21 h => ?_)
    · refine COk.seqQ fun Q1037 qn1037 qx1037 qr1037 => ?_
      refine gor hn ?_
      obtain ⟨hg22, h⟩ := guardM h
      refine quoM hg22 ?_
      refine Or.inr ?_
      refine Or.inr ?_
      refine qn1037 _ _ ?_
      refine got hn ?_
      refine qr1034 _ _ ?_
      obtain rfl := Option.some.inj h
      exact ⟨[], _, rfl, (by repeat (first | exact trivial | exact rfl | (refine And.intro ?_ ?_))), trivial, rfl, rfl, rfl, rfl, rfl⟩
    · refine gok hn ?_
      refine qn1034 _ _ ?_
      refine COk.seqQ fun Q1038 qn1038 qx1038 qr1038 => ?_
      refine gor hn ?_
      obtain ⟨hg23, h⟩ := guardM h
      refine decM hg23 ?_
      obtain ⟨hg24, h⟩ := guardM h
      refine quoM hg24 ?_
      refine Or.inr ?_
      refine Or.inr ?_
      refine qn1038 _ _ ?_
      refine got hn ?_
      obtain rfl := Option.some.inj h
      exact ⟨[], _, rfl, (by repeat (first | exact trivial | exact rfl | (refine And.intro ?_ ?_))), trivial, rfl, rfl, rfl, rfl, rfl⟩

/- qclaw1.ValueTells -/
set_option maxRecDepth 100000 in
set_option maxHeartbeats 1000000 in
theorem qclaw1_ValueTells_ok (N : Nat) (a0 : (List Ob)) (a1 : V) (a2 : Int) (a3 : Int) (a4 : Int) (a5 : Int) (a6 : V) (a7 : V) (r : Bool) (h : qclaw1_ValueTells N a0 a1 a2 a3 a4 a5 a6 a7 = some r) : Spec Try.prog 5 [] [.sl 2 (List.map eOb a0), .agg (eV a1), .int a2, .int a3, .int a4, .int a5, .agg (eV a6), .agg (eV a7)] (.bool r) [] [] := by
  refine Spec.of tabOk Try.func5 rfl Try.ntmps5 (by kernel_rfl) rfl rfl rfl fun Γ hn => ?_
  unfold qclaw1_ValueTells at h
  refine COk.seqQ fun Q101 qn101 qx101 qr101 => ?_
  refine gor hn ?_
  refine qn101 _ _ ?_
  refine COk.seqQ fun Q102 qn102 qx102 qr102 => ?_
  refine COk.seqQ fun Q103 qn103 qx103 qr103 => ?_
  obtain ⟨o3, h2, h⟩ := bindM h
  refine COk.joinR (ι := { s : Bool // o3 = s }) (fun s => [(0, .sl 2 (List.map eOb a0)), (3, .int a3), (4, .int a4), (5, .int a5), (14, .ptr 14 0), (15, .ptr 15 0), (68, .bool s.1)]) (fun s => [(14, .box (eV a6) 45), (15, .box (eV a7) 45)]) (fun Q104 qn104 qx104 qr104 => ?_) (by intro s; rw [hn]; rfl) ?_
  · refine COk.sub (ts2 := [(0, .sl 2 (List.map eOb a0)), (2, .int a2), (3, .int a3), (4, .int a4), (5, .int a5), (9, .ptr 9 0), (14, .ptr 14 0), (15, .ptr 15 0)]) (os2 := [(9, .box (eV a1) 45), (14, .box (eV a6) 45), (15, .box (eV a7) 45)]) [] ⟨⟨(by repeat (first | exact trivial | exact rfl | (refine And.intro ?_ ?_))), rfl, rfl, rfl, rfl, rfl, rfl, rfl, trivial⟩, ⟨rfl, rfl, rfl, trivial⟩, rfl, rfl⟩ (by rw [hn]; rfl) ?_
    refine god hn (by kernel_rfl) ?_
    obtain ⟨r4, hr5, h2⟩ := bindM h2
    show CallOk Try.prog _ _ _ _
    refine CallOk.as (value_Wrong_ok N a1 a2 r4 hr5) (by repeat (first | exact trivial | exact rfl | (refine And.intro ?_ ?_))) trivial rfl ?_
    obtain ⟨r6, hr7, h2⟩ := bindM h2
    show CallOk Try.prog _ _ _ _
    refine CallOk.as (qcref1_Wrong_ok N a1 a2 r6 hr7) (by repeat (first | exact trivial | exact rfl | (refine And.intro ?_ ?_))) trivial rfl ?_
    refine bselM h2 (fun hb8 h2 => ?_) (fun hb8 h2 => ?_)
    · refine bselT hb8 ?_
      refine bselT hb8 ?_
      refine bselT hb8 ?_
      refine bselT hb8 ?_
      refine bselT hb8 ?_
      refine bselT hb8 ?_
      refine bselT hb8 ?_
      refine qn104 _ _ ?_
      obtain rfl := Option.some.inj h2
      refine EOk.done ?_
      exact ⟨⟨_, rfl⟩, [], trivial, ⟨⟨(by repeat (first | exact trivial | exact rfl | (refine And.intro ?_ ?_))), rfl, rfl, rfl, rfl, rfl, rfl, trivial⟩, ⟨rfl, rfl, trivial⟩, rfl, rfl⟩⟩
    · refine bselF hb8 ?_
      refine bselF hb8 ?_
      obtain ⟨r9, hr10, h2⟩ := bindM h2
      show CallOk Try.prog _ _ _ _
      refine CallOk.as (value_Class_ok N a0 a1 r9 hr10) (by repeat (first | exact trivial | exact rfl | (refine And.intro ?_ ?_))) trivial rfl ?_
      refine bselF hb8 ?_
      refine bselF hb8 ?_
      refine bselF hb8 ?_
      obtain ⟨r11, hr12, h2⟩ := bindM h2
      show CallOk Try.prog _ _ _ _
      refine CallOk.as (qcref1_Class_ok N a0 a1 r11 hr12) (by repeat (first | exact trivial | exact rfl | (refine And.intro ?_ ?_))) trivial rfl ?_
      refine bselF hb8 ?_
      refine bselF hb8 ?_
      refine bselM h2 (fun hb13 h2 => ?_) (fun hb13 h2 => ?_)
      · refine bselT hb13 ?_
        refine bselT hb13 ?_
        refine bselT hb13 ?_
        refine bselT hb13 ?_
        refine bselT hb13 ?_
        refine bselT hb13 ?_
        refine bselT hb13 ?_
        refine bselT hb13 ?_
        refine bselT hb13 ?_
        refine qn104 _ _ ?_
        obtain rfl := Option.some.inj h2
        refine EOk.done ?_
        exact ⟨⟨_, rfl⟩, [], trivial, ⟨⟨(by repeat (first | exact trivial | exact rfl | (refine And.intro ?_ ?_))), rfl, rfl, rfl, rfl, rfl, rfl, trivial⟩, ⟨rfl, rfl, trivial⟩, rfl, rfl⟩⟩
      · refine bselF hb13 ?_
        refine bselF hb13 ?_
        refine bselF hb13 ?_
        obtain ⟨r14, hr15, h2⟩ := bindM h2
        show CallOk Try.prog _ _ _ _
        refine CallOk.as (value_Slot_ok N a0 a1 a2 r14 hr15) (by repeat (first | exact trivial | exact rfl | (refine And.intro ?_ ?_))) trivial rfl ?_
        refine bselF hb13 ?_
        refine bselF hb13 ?_
        refine bselF hb13 ?_
        refine bselF hb13 ?_
        obtain ⟨r16, hr17, h2⟩ := bindM h2
        show CallOk Try.prog _ _ _ _
        refine CallOk.as (qcref1_Slot_ok N a0 a1 a2 r16 hr17) (by repeat (first | exact trivial | exact rfl | (refine And.intro ?_ ?_))) trivial rfl ?_
        refine bselF hb13 ?_
        refine bselF hb13 ?_
        refine bselM h2 (fun hb18 h2 => ?_) (fun hb18 h2 => ?_)
        · refine bselT hb18 ?_
          refine bselT hb18 ?_
          refine bselT hb18 ?_
          refine bselT hb18 ?_
          refine bselT hb18 ?_
          refine bselT hb18 ?_
          refine bselT hb18 ?_
          refine qn104 _ _ ?_
          obtain rfl := Option.some.inj h2
          refine EOk.done ?_
          exact ⟨⟨_, rfl⟩, [], trivial, ⟨⟨(by repeat (first | exact trivial | exact rfl | (refine And.intro ?_ ?_))), rfl, rfl, rfl, rfl, rfl, rfl, trivial⟩, ⟨rfl, rfl, trivial⟩, rfl, rfl⟩⟩
        · refine bselF hb18 ?_
          refine bselF hb18 ?_
          obtain ⟨r19, hr20, h2⟩ := bindM h2
          show CallOk Try.prog _ _ _ _
          refine CallOk.as (value_Bool_ok N (decide ((0 : Int) < a2)) r19 hr20) (by repeat (first | exact trivial | exact rfl | (refine And.intro ?_ ?_))) trivial rfl ?_
          refine bselF hb18 ?_
          refine bselF hb18 ?_
          refine bselF hb18 ?_
          obtain ⟨r21, hr22, h2⟩ := bindM h2
          show CallOk Try.prog _ _ _ _
          refine CallOk.as (qcref1_Bool_ok N (decide ((0 : Int) < a2)) r21 hr22) (by repeat (first | exact trivial | exact rfl | (refine And.intro ?_ ?_))) trivial rfl ?_
          refine bselF hb18 ?_
          refine bselF hb18 ?_
          refine bselM h2 (fun hb23 h2 => ?_) (fun hb23 h2 => ?_)
          · refine bselT hb23 ?_
            refine bselT hb23 ?_
            refine bselT hb23 ?_
            refine bselT hb23 ?_
            refine bselT hb23 ?_
            refine bselT hb23 ?_
            refine bselT hb23 ?_
            refine qn104 _ _ ?_
            obtain rfl := Option.some.inj h2
            refine EOk.done ?_
            exact ⟨⟨_, rfl⟩, [], trivial, ⟨⟨(by repeat (first | exact trivial | exact rfl | (refine And.intro ?_ ?_))), rfl, rfl, rfl, rfl, rfl, rfl, trivial⟩, ⟨rfl, rfl, trivial⟩, rfl, rfl⟩⟩
          · refine bselF hb23 ?_
            obtain ⟨r24, hr25, h2⟩ := bindM h2
            show CallOk Try.prog _ _ _ _
            refine CallOk.as ((value_Own_ok N a0 r24 hr25).sw 0 62) (by repeat (first | exact trivial | exact rfl | (refine And.intro ?_ ?_))) trivial rfl ?_
            refine bselF hb23 ?_
            refine bselF hb23 ?_
            refine bselF hb23 ?_
            refine bselF hb23 ?_
            obtain ⟨r26, hr27, h2⟩ := bindM h2
            show CallOk Try.prog _ _ _ _
            refine CallOk.lend (qcref1_SameWorld_ok N (⟨[], r24, (0 : Int)⟩ : Wd) (⟨[], a0, (0 : Int)⟩ : Wd) r26 hr27) (by repeat (first | exact trivial | exact rfl | (refine And.intro ?_ ?_))) rfl ?_
            refine bselF hb23 ?_
            refine bselF hb23 ?_
            refine qn104 _ _ ?_
            obtain rfl := Option.some.inj h2
            refine EOk.done ?_
            exact ⟨⟨_, rfl⟩, [], trivial, ⟨⟨(by repeat (first | exact trivial | exact rfl | (refine And.intro ?_ ?_))), rfl, rfl, rfl, rfl, rfl, rfl, trivial⟩, ⟨rfl, rfl, trivial⟩, rfl, rfl⟩⟩
  rintro ⟨v1, hv_⟩
  replace hv_ := hv_.symm
  subst hv_
  refine qn103 _ _ ?_
  refine goc hn ?_
  refine bselM h (fun hb28 h => ?_) (fun hb28 h => ?_)
  · refine COk.seqQ fun Q106 qn106 qx106 qr106 => ?_
    refine gor hn ?_
    refine qn106 _ _ ?_
    refine got hn ?_
    refine qr102 _ _ ?_
    obtain rfl := Option.some.inj h
    exact ⟨[], _, rfl, (by repeat (first | exact trivial | exact rfl | (refine And.intro ?_ ?_))), trivial, rfl, rfl, rfl, rfl, rfl⟩
  · refine gok hn ?_
    refine qn102 _ _ ?_
    refine COk.seqQ fun Q107 qn107 qx107 qr107 => ?_
    refine COk.seqQ fun Q108 qn108 qx108 qr108 => ?_
    obtain ⟨o31, h30, h⟩ := bindM h
    refine COk.joinR (ι := { s : Bool // o31 = s }) (fun s => [(0, .sl 2 (List.map eOb a0)), (3, .int a3), (4, .int a4), (5, .int a5), (14, .ptr 14 0), (15, .ptr 15 0), (74, .bool s.1)]) (fun s => [(14, .box (eV a6) 45), (15, .box (eV a7) 45)]) (fun Q109 qn109 qx109 qr109 => ?_) (by intro s; rw [hn]; rfl) ?_
    · refine gor hn ?_
      refine bselM h30 (fun hb32 h30 => ?_) (fun hb32 h30 => ?_)
      · refine bselT hb32 ?_
        refine bselT hb32 ?_
        refine qn109 _ _ ?_
        obtain rfl := Option.some.inj h30
        refine EOk.done ?_
        exact ⟨⟨_, rfl⟩, [], trivial, ⟨⟨(by repeat (first | exact trivial | exact rfl | (refine And.intro ?_ ?_))), rfl, rfl, rfl, rfl, rfl, rfl, trivial⟩, ⟨rfl, rfl, trivial⟩, rfl, rfl⟩⟩
      · refine bselF hb32 ?_
        refine bselF hb32 ?_
        refine qn109 _ _ ?_
        obtain rfl := Option.some.inj h30
        refine EOk.done ?_
        exact ⟨⟨_, rfl⟩, [], trivial, ⟨⟨(by repeat (first | exact trivial | exact rfl | (refine And.intro ?_ ?_))), rfl, rfl, rfl, rfl, rfl, rfl, trivial⟩, ⟨rfl, rfl, trivial⟩, rfl, rfl⟩⟩
    rintro ⟨v29, hv_⟩
    replace hv_ := hv_.symm
    subst hv_
    refine qn108 _ _ ?_
    obtain ⟨o34, h33, h⟩ := bindM h
    refine COk.joinR (ι := { s : Unit // o34 = Ctl.next s }) (fun s => [(5, .int a5), (14, .ptr 14 0), (15, .ptr 15 0)]) (fun s => [(14, .box (eV a6) 45), (15, .box (eV a7) 45)]) (fun Q164 qn164 qx164 qr164 => ?_) (by intro s; rw [hn]; rfl) ?_
    · refine goc hn ?_
      refine bselM h33 (fun hb35 h33 => ?_) (fun hb35 h33 => ?_)
      · refine COk.seqQ fun Q165 qn165 qx165 qr165 => ?_
        refine gor hn ?_
        obtain ⟨r36, hr37, h33⟩ := bindM h33
        show CallOk Try.prog _ _ _ _
        refine CallOk.as ((value_New_ok N a0 a3 a4 r36 hr37).sw 0 79) (by repeat (first | exact trivial | exact rfl | (refine And.intro ?_ ?_))) trivial rfl ?_
        refine qn165 _ _ ?_
        refine COk.seqQ fun Q166 qn166 qx166 qr166 => ?_
        refine COk.sub (ts2 := [(0, .sl 2 (List.map eOb a0)), (3, .int a3), (4, .int a4), (5, .int a5), (14, .ptr 14 0), (15, .ptr 15 0), (17, .own 79), (18, .ptr 18 0), (19, .int r36.2.2)]) (os2 := [(14, .box (eV a6) 45), (15, .box (eV a7) 45), (18, .box (eV r36.2.1) 45), (79, .row 2 (List.map eOb r36.1) 60)]) [] ⟨⟨(by repeat (first | exact trivial | exact rfl | (refine And.intro ?_ ?_))), rfl, rfl, rfl, rfl, rfl, rfl, rfl, rfl, trivial⟩, ⟨rfl, rfl, rfl, rfl, trivial⟩, rfl, rfl⟩ (by rw [hn]; rfl) ?_
        refine gor hn ?_
        refine lenM (fun hl38 => ?_)
        refine qn166 _ _ ?_
        obtain ⟨o40, h39, h33⟩ := bindM h33
        refine COk.joinR (ι := { s : Unit // o40 = Ctl.next s }) (fun s => [(5, .int a5), (14, .ptr 14 0), (15, .ptr 15 0)]) (fun s => [(14, .box (eV a6) 45), (15, .box (eV a7) 45)]) (fun Q183 qn183 qx183 qr183 => ?_) (by intro s; rw [hn]; rfl) ?_
        · refine goc hn ?_
          refine bselM h39 (fun hb41 h39 => ?_) (fun hb41 h39 => ?_)
          · refine COk.seqQ fun Q184 qn184 qx184 qr184 => ?_
            obtain ⟨o44, h43, h39⟩ := bindM h39
            refine COk.joinR (ι := { s : Bool // o44 = s }) (fun s => [(5, .int a5), (14, .ptr 14 0), (15, .ptr 15 0), (97, .bool s.1)]) (fun s => [(14, .box (eV a6) 45), (15, .box (eV a7) 45)]) (fun Q185 qn185 qx185 qr185 => ?_) (by intro s; rw [hn]; rfl) ?_
            · refine gor hn ?_
              refine bselM h43 (fun hb45 h43 => ?_) (fun hb45 h43 => ?_)
              · refine bselT hb45 ?_
                refine bselT hb45 ?_
                refine bselT hb45 ?_
                refine qn185 _ _ ?_
                obtain rfl := Option.some.inj h43
                refine EOk.done ?_
                exact ⟨⟨_, rfl⟩, [], trivial, ⟨⟨rfl, rfl, rfl, rfl, trivial⟩, ⟨rfl, rfl, trivial⟩, rfl, rfl⟩⟩
              · refine bselF hb45 ?_
                refine lenM (fun hl46 => ?_)
                refine bselF hb45 ?_
                refine bselF hb45 ?_
                refine bselM h43 (fun hb47 h43 => ?_) (fun hb47 h43 => ?_)
                · refine bselT hb47 ?_
                  refine bselT hb47 ?_
                  refine bselT hb47 ?_
                  refine qn185 _ _ ?_
                  obtain rfl := Option.some.inj h43
                  refine EOk.done ?_
                  exact ⟨⟨_, rfl⟩, [], trivial, ⟨⟨rfl, rfl, rfl, rfl, trivial⟩, ⟨rfl, rfl, trivial⟩, rfl, rfl⟩⟩
                · refine bselF hb47 ?_
                  refine bselF hb47 ?_
                  refine bselF hb47 ?_
                  refine qn185 _ _ ?_
                  obtain rfl := Option.some.inj h43
                  refine EOk.done ?_
                  exact ⟨⟨_, rfl⟩, [], trivial, ⟨⟨rfl, rfl, rfl, rfl, trivial⟩, ⟨rfl, rfl, trivial⟩, rfl, rfl⟩⟩
            rintro ⟨v42, hv_⟩
            replace hv_ := hv_.symm
            subst hv_
            refine qn184 _ _ ?_
            refine goc hn ?_
            refine bselM h39 (fun hb48 h39 => ?_) (fun hb48 h39 => ?_)
            · refine COk.seqQ fun Q187 qn187 qx187 qr187 => ?_
              refine gor hn ?_
              refine qn187 _ _ ?_
              refine got hn ?_
              refine qr183 _ _ ?_
              refine qr164 _ _ ?_
              refine qr107 _ _ ?_
              obtain rfl := Option.some.inj h39
              obtain rfl := Option.some.inj h33
              obtain rfl := Option.some.inj h
              exact ⟨[], _, rfl, (by repeat (first | exact trivial | exact rfl | (refine And.intro ?_ ?_))), trivial, rfl, rfl, rfl, rfl, rfl⟩
            · refine gok hn ?_
              refine qn183 _ _ ?_
              obtain rfl := Option.some.inj h39
              refine EOk.done ?_
              exact ⟨⟨_, rfl⟩, [], trivial, ⟨⟨rfl, rfl, rfl, trivial⟩, ⟨rfl, rfl, trivial⟩, rfl, rfl⟩⟩
          · refine COk.seqQ fun Q188 qn188 qx188 qr188 => ?_
            obtain ⟨o51, h50, h39⟩ := bindM h39
            refine COk.joinR (ι := { s : Bool // o51 = s }) (fun s => [(5, .int a5), (14, .ptr 14 0), (15, .ptr 15 0), (122, .bool s.1)]) (fun s => [(14, .box (eV a6) 45), (15, .box (eV a7) 45)]) (fun Q189 qn189 qx189 qr189 => ?_) (by intro s; rw [hn]; rfl) ?_
            · refine COk.sub (ts2 := [(0, .sl 2 (List.map eOb a0)), (3, .int a3), (4, .int a4), (5, .int a5), (14, .ptr 14 0), (15, .ptr 15 0), (17, .own 79), (18, .ptr 18 0), (19, .int r36.2.2)]) (os2 := [(14, .box (eV a6) 45), (15, .box (eV a7) 45), (18, .box (eV r36.2.1) 45), (79, .row 2 (List.map eOb r36.1) 60)]) [] ⟨⟨(by repeat (first | exact trivial | exact rfl | (refine And.intro ?_ ?_))), rfl, rfl, rfl, rfl, rfl, rfl, rfl, rfl, trivial⟩, ⟨rfl, rfl, rfl, rfl, trivial⟩, rfl, rfl⟩ (by rw [hn]; rfl) ?_
              refine god hn (by kernel_rfl) ?_
              refine bselM h50 (fun hb52 h50 => ?_) (fun hb52 h50 => ?_)
              · refine bselT hb52 ?_
                refine bselT hb52 ?_
                refine bselT hb52 ?_
                refine bselT hb52 ?_
                refine bselT hb52 ?_
                refine qn189 _ _ ?_
                obtain rfl := Option.some.inj h50
                refine EOk.done ?_
                exact ⟨⟨_, rfl⟩, [], trivial, ⟨⟨rfl, rfl, rfl, rfl, trivial⟩, ⟨rfl, rfl, trivial⟩, rfl, rfl⟩⟩
              · refine bselF hb52 ?_
                refine bselF hb52 ?_
                refine lenM (fun hl53 => ?_)
                refine bselF hb52 ?_
                refine bselF hb52 ?_
                refine bselF hb52 ?_
                refine bselM h50 (fun hb54 h50 => ?_) (fun hb54 h50 => ?_)
                · refine bselT hb54 ?_
                  refine bselT hb54 ?_
                  refine bselT hb54 ?_
                  refine bselT hb54 ?_
                  refine bselT hb54 ?_
                  refine bselT hb54 ?_
                  refine bselT hb54 ?_
                  refine bselT hb54 ?_
                  refine bselT hb54 ?_
                  refine bselT hb54 ?_
                  refine bselT hb54 ?_
                  refine bselT hb54 ?_
                  refine bselT hb54 ?_
                  refine bselT hb54 ?_
                  refine qn189 _ _ ?_
                  obtain rfl := Option.some.inj h50
                  refine EOk.done ?_
                  exact ⟨⟨_, rfl⟩, [], trivial, ⟨⟨rfl, rfl, rfl, rfl, trivial⟩, ⟨rfl, rfl, trivial⟩, rfl, rfl⟩⟩
                · refine bselF hb54 ?_
                  refine bselF hb54 ?_
                  refine Exists.intro (List.map eOb ([] : List Ob)) (And.intro (by repeat (first | exact trivial | exact rfl | (refine And.intro ?_ ?_))) ?_)
                  refine bselF hb54 ?_
                  refine bselF hb54 ?_
                  obtain ⟨hg55, h50⟩ := guardM h50
                  refine appM (l2 := a0) hg55 (leLs_refl _) ?_
                  refine bselF hb54 ?_
                  refine bselF hb54 ?_
                  refine bselF hb54 ?_
                  obtain ⟨hg56, h50⟩ := guardM h50
                  refine mkM (enc := eV) (x := (⟨(0 : Int), (0 : Int)⟩ : V)) hg56 (by repeat (first | exact trivial | exact rfl | (refine And.intro ?_ ?_))) ?_
                  refine bselF hb54 ?_
                  refine bselF hb54 ?_
                  refine Exists.intro (List.map eOb [(⟨a3, (List.replicate a4.toNat (⟨(0 : Int), (0 : Int)⟩ : V))⟩ : Ob)]) (And.intro (by repeat (first | exact trivial | exact rfl | (refine And.intro ?_ ?_))) ?_)
                  refine bselF hb54 ?_
                  obtain ⟨hg57, h50⟩ := guardM h50
                  refine appM (l2 := [(⟨a3, (List.replicate a4.toNat (⟨(0 : Int), (0 : Int)⟩ : V))⟩ : Ob)]) hg57 (leLs_refl _) ?_
                  refine bselF hb54 ?_
                  refine bselF hb54 ?_
                  obtain ⟨r58, hr59, h50⟩ := bindM h50
                  show CallOk Try.prog _ _ _ _
                  refine CallOk.lend (qcref1_SameWorld_ok N (⟨[], r36.1, (0 : Int)⟩ : Wd) (⟨[], ((([] : List Ob) ++ a0) ++ [(⟨a3, (List.replicate a4.toNat (⟨(0 : Int), (0 : Int)⟩ : V))⟩ : Ob)]), (0 : Int)⟩ : Wd) r58 hr59) (by repeat (first | exact trivial | exact rfl | (refine And.intro ?_ ?_))) rfl ?_
                  refine bselF hb54 ?_
                  refine bselF hb54 ?_
                  refine qn189 _ _ ?_
                  obtain rfl := Option.some.inj h50
                  refine EOk.done ?_
                  exact ⟨⟨_, rfl⟩, [], trivial, ⟨⟨rfl, rfl, rfl, rfl, trivial⟩, ⟨rfl, rfl, trivial⟩, rfl, rfl⟩⟩
            rintro ⟨v49, hv_⟩
            replace hv_ := hv_.symm
            subst hv_
            refine qn188 _ _ ?_
            refine goc hn ?_
            refine bselM h39 (fun hb60 h39 => ?_) (fun hb60 h39 => ?_)
            · refine COk.seqQ fun Q191 qn191 qx191 qr191 => ?_
              refine gor hn ?_
              refine qn191 _ _ ?_
              refine got hn ?_
              refine qr183 _ _ ?_
              refine qr164 _ _ ?_
              refine qr107 _ _ ?_
              obtain rfl := Option.some.inj h39
              obtain rfl := Option.some.inj h33
              obtain rfl := Option.some.inj h
              exact ⟨[], _, rfl, (by repeat (first | exact trivial | exact rfl | (refine And.intro ?_ ?_))), trivial, rfl, rfl, rfl, rfl, rfl⟩
            · refine gok hn ?_
              refine qn183 _ _ ?_
              obtain rfl := Option.some.inj h39
              refine EOk.done ?_
              exact ⟨⟨_, rfl⟩, [], trivial, ⟨⟨rfl, rfl, rfl, trivial⟩, ⟨rfl, rfl, trivial⟩, rfl, rfl⟩⟩
        rintro ⟨⟨⟩, rfl⟩
        refine qn164 _ _ ?_
        obtain rfl := Option.some.inj h33
        refine EOk.done ?_
        exact ⟨⟨_, rfl⟩, [], trivial, ⟨⟨rfl, rfl, rfl, trivial⟩, ⟨rfl, rfl, trivial⟩, rfl, rfl⟩⟩
      · refine gok hn ?_
        refine qn164 _ _ ?_
        obtain rfl := Option.some.inj h33
        refine EOk.done ?_
        exact ⟨⟨_, rfl⟩, [], trivial, ⟨⟨rfl, rfl, rfl, trivial⟩, ⟨rfl, rfl, trivial⟩, rfl, rfl⟩⟩
    rintro ⟨⟨⟩, rfl⟩
    refine qn107 _ _ ?_
    refine COk.seqQ fun Q192 qn192 qx192 qr192 => ?_
    refine COk.seqQ fun Q193 qn193 qx193 qr193 => ?_
    obtain ⟨o63, h62, h⟩ := bindM h
    refine COk.joinR (ι := { s : Bool // o63 = s }) (fun s => [(5, .int a5), (14, .ptr 14 0), (15, .ptr 15 0), (130, .bool s.1)]) (fun s => [(14, .box (eV a6) 45), (15, .box (eV a7) 45)]) (fun Q194 qn194 qx194 qr194 => ?_) (by intro s; rw [hn]; rfl) ?_
    · refine gor hn ?_
      obtain ⟨r64, hr65, h62⟩ := bindM h62
      show CallOk Try.prog _ _ _ _
      refine CallOk.as (qcref1_Wrong_ok N a6 (1000 : Int) r64 hr65) (by repeat (first | exact trivial | exact rfl | (refine And.intro ?_ ?_))) trivial rfl ?_
      refine bselM h62 (fun hb66 h62 => ?_) (fun hb66 h62 => ?_)
      · refine bselT hb66 ?_
        refine bselT hb66 ?_
        refine bselT hb66 ?_
        refine qn194 _ _ ?_
        obtain rfl := Option.some.inj h62
        refine EOk.done ?_
        exact ⟨⟨_, rfl⟩, [], trivial, ⟨⟨rfl, rfl, rfl, rfl, trivial⟩, ⟨rfl, rfl, trivial⟩, rfl, rfl⟩⟩
      · refine bselF hb66 ?_
        obtain ⟨r67, hr68, h62⟩ := bindM h62
        show CallOk Try.prog _ _ _ _
        refine CallOk.as (qcref1_Wrong_ok N a7 (1000 : Int) r67 hr68) (by repeat (first | exact trivial | exact rfl | (refine And.intro ?_ ?_))) trivial rfl ?_
        refine bselF hb66 ?_
        refine bselF hb66 ?_
        refine qn194 _ _ ?_
        obtain rfl := Option.some.inj h62
        refine EOk.done ?_
        exact ⟨⟨_, rfl⟩, [], trivial, ⟨⟨rfl, rfl, rfl, rfl, trivial⟩, ⟨rfl, rfl, trivial⟩, rfl, rfl⟩⟩
    rintro ⟨v61, hv_⟩
    replace hv_ := hv_.symm
    subst hv_
    refine qn193 _ _ ?_
    refine goc hn ?_
    refine bselM h (fun hb69 h => ?_) (fun hb69 h => ?_)
    · refine COk.seqQ fun Q196 qn196 qx196 qr196 => ?_
      refine gor hn ?_
      refine qn196 _ _ ?_
      refine got hn ?_
      refine qr192 _ _ ?_
      obtain rfl := Option.some.inj h
      exact ⟨[], _, rfl, (by repeat (first | exact trivial | exact rfl | (refine And.intro ?_ ?_))), trivial, rfl, rfl, rfl, rfl, rfl⟩
    · refine gok hn ?_
      refine qn192 _ _ ?_
      refine COk.seqQ fun Q197 qn197 qx197 qr197 => ?_
      refine gor hn ?_
      obtain ⟨r70, hr71, h⟩ := bindM h
      show CallOk Try.prog _ _ _ _
      refine CallOk.as (value_Prim_ok N a5 a6 a7 r70 hr71) (by repeat (first | exact trivial | exact rfl | (refine And.intro ?_ ?_))) trivial rfl ?_
      refine qn197 _ _ ?_
      refine COk.seqQ fun Q198 qn198 qx198 qr198 => ?_
      refine gor hn ?_
      obtain ⟨r72, hr73, h⟩ := bindM h
      show CallOk Try.prog _ _ _ _
      refine CallOk.as (qcref1_Prim_ok N a5 a6 a7 r72 hr73) (by repeat (first | exact trivial | exact rfl | (refine And.intro ?_ ?_))) trivial rfl ?_
      refine qn198 _ _ ?_
      refine COk.seqQ fun Q199 qn199 qx199 qr199 => ?_
      obtain ⟨o76, h75, h⟩ := bindM h
      refine COk.joinR (ι := { s : Bool // o76 = s }) (fun s => [(16, .bool s.1)]) (fun s => []) (fun Q200 qn200 qx200 qr200 => ?_) (by intro s; rw [hn]; rfl) ?_
      · refine COk.sub (ts2 := [(20, .ptr 20 0), (21, .int r70.2), (22, .ptr 22 0), (23, .int r72.2)]) (os2 := [(20, .box (eV r70.1) 45), (22, .box (eV r72.1) 45)]) [] ⟨⟨rfl, rfl, rfl, rfl, trivial⟩, ⟨rfl, rfl, trivial⟩, rfl, rfl⟩ (by rw [hn]; rfl) ?_
        refine gor hn ?_
        refine bselM h75 (fun hb77 h75 => ?_) (fun hb77 h75 => ?_)
        · refine bselT hb77 ?_
          refine bselT hb77 ?_
          refine bselT hb77 ?_
          refine qn200 _ _ ?_
          obtain rfl := Option.some.inj h75
          refine EOk.done ?_
          exact ⟨⟨_, rfl⟩, [], trivial, ⟨⟨rfl, trivial⟩, trivial, rfl, rfl⟩⟩
        · refine bselF hb77 ?_
          refine bselF hb77 ?_
          refine bselF hb77 ?_
          refine qn200 _ _ ?_
          obtain rfl := Option.some.inj h75
          refine EOk.done ?_
          exact ⟨⟨_, rfl⟩, [], trivial, ⟨⟨rfl, trivial⟩, trivial, rfl, rfl⟩⟩
      rintro ⟨v74, hv_⟩
      replace hv_ := hv_.symm
      subst hv_
      refine qn199 _ _ ?_
      refine got hn ?_
      obtain rfl := Option.some.inj h
      exact ⟨[], _, rfl, (by repeat (first | exact trivial | exact rfl | (refine And.intro ?_ ?_))), trivial, rfl, rfl, rfl, rfl, rfl⟩

/- qclaw1.num -/
set_option maxRecDepth 100000 in
set_option maxHeartbeats 1000000 in
theorem qclaw1_num_ok (N : Nat) (a0 : Int) (r : V) (h : qclaw1_num N a0 = some r) : Spec Try.prog 36 [] [.int a0] (.agg (eV r)) [] [] := by
  refine Spec.of tabOk Try.func36 rfl Try.ntmps36 (by kernel_rfl) rfl rfl rfl fun Γ hn => ?_
  unfold qclaw1_num at h
  refine COk.seqQ fun Q3 qn3 qx3 qr3 => ?_
  refine gor hn ?_
  refine qn3 _ _ ?_
  refine COk.seqQ fun Q4 qn4 qx4 qr4 => ?_
  refine gor hn ?_
  refine qn4 _ _ ?_
  refine got hn ?_
  obtain rfl := Option.some.inj h
  exact ⟨[], _, rfl, (by repeat (first | exact trivial | exact rfl | (refine And.intro ?_ ?_))), trivial, rfl, rfl, rfl, rfl, rfl⟩

/- qclaw1.alive -/
set_option maxRecDepth 100000 in
set_option maxHeartbeats 1000000 in
theorem qclaw1_alive_ok (N : Nat) (r : Bool) (h : qclaw1_alive N  = some r) : Spec Try.prog 35 [] [] (.bool r) [] [] := by
  refine Spec.of tabOk Try.func35 rfl Try.ntmps35 (by kernel_rfl) rfl rfl rfl fun Γ hn => ?_
  unfold qclaw1_alive at h
  refine COk.seqQ fun Q6 qn6 qx6 qr6 => ?_
  refine gor hn ?_
  refine qn6 _ _ ?_
  refine COk.seqQ fun Q7 qn7 qx7 qr7 => ?_
  refine gor hn ?_
  obtain ⟨r1, hr2, h⟩ := bindM h
  show CallOk Try.prog _ _ _ _
  refine CallOk.as ((value_New_ok N [] (5 : Int) (2 : Int) r1 hr2).sw 0 7) (by repeat (first | exact trivial | exact rfl | (refine And.intro ?_ ?_))) trivial rfl ?_
  refine qn7 _ _ ?_
  refine COk.seqQ fun Q8 qn8 qx8 qr8 => ?_
  refine gor hn ?_
  obtain ⟨r3, hr4, h⟩ := bindM h
  show CallOk Try.prog _ _ _ _
  refine CallOk.as (qclaw1_num_ok N (2 : Int) r3 hr4) (by repeat (first | exact trivial | exact rfl | (refine And.intro ?_ ?_))) trivial rfl ?_
  obtain ⟨r5, hr6, h⟩ := bindM h
  show CallOk Try.prog _ _ _ _
  refine CallOk.as (qclaw1_num_ok N (3 : Int) r5 hr6) (by repeat (first | exact trivial | exact rfl | (refine And.intro ?_ ?_))) trivial rfl ?_
  obtain ⟨r7, hr8, h⟩ := bindM h
  show CallOk Try.prog _ _ _ _
  refine CallOk.as (value_Prim_ok N (1 : Int) r3 r5 r7 hr8) (by repeat (first | exact trivial | exact rfl | (refine And.intro ?_ ?_))) trivial rfl ?_
  refine qn8 _ _ ?_
  refine COk.seqQ fun Q9 qn9 qx9 qr9 => ?_
  obtain ⟨o11, h10, h⟩ := bindM h
  refine COk.joinR (ι := { s : Bool // o11 = s }) (fun s => [(0, .bool s.1)]) (fun s => []) (fun Q10 qn10 qx10 qr10 => ?_) (by intro s; rw [hn]; rfl) ?_
  · refine COk.fzAll 7 rfl ?_
    refine COk.sub (ts2 := [(1, .sl 2 (List.map eOb r1.1)), (2, .ptr 2 0), (3, .int r1.2.2), (4, .ptr 4 0), (5, .int r7.2)]) (os2 := [(2, .box (eV r1.2.1) 45), (4, .box (eV r7.1) 45)]) [] ⟨⟨(by repeat (first | exact trivial | exact rfl | (refine And.intro ?_ ?_))), rfl, rfl, rfl, rfl, trivial⟩, ⟨rfl, rfl, trivial⟩, rfl, rfl⟩ (by rw [hn]; rfl) ?_
    refine god hn (by kernel_rfl) ?_
    refine bselM h10 (fun hb12 h10 => ?_) (fun hb12 h10 => ?_)
    · refine bselT hb12 ?_
      refine bselT hb12 ?_
      refine bselM h10 (fun hb13 h10 => ?_) (fun hb13 h10 => ?_)
      · refine bselT hb13 ?_
        refine lenM (fun hl14 => ?_)
        refine bselT hb13 ?_
        refine bselT hb13 ?_
        refine bselM h10 (fun hb15 h10 => ?_) (fun hb15 h10 => ?_)
        · refine bselT hb15 ?_
          refine bselT hb15 ?_
          refine bselT hb15 ?_
          refine bselM h10 (fun hb16 h10 => ?_) (fun hb16 h10 => ?_)
          · refine bselT hb16 ?_
            obtain ⟨r17, hr18, h10⟩ := bindM h10
            show CallOk Try.prog _ _ _ _
            refine CallOk.as (qclaw1_num_ok N (5 : Int) r17 hr18) (by repeat (first | exact trivial | exact rfl | (refine And.intro ?_ ?_))) trivial rfl ?_
            refine bselT hb16 ?_
            refine bselT hb16 ?_
            refine bselM h10 (fun hb19 h10 => ?_) (fun hb19 h10 => ?_)
            · refine bselT hb19 ?_
              refine bselT hb19 ?_
              obtain ⟨r20, hr21, h10⟩ := bindM h10
              show CallOk Try.prog _ _ _ _
              refine CallOk.as (value_Class_ok N r1.1 r1.2.1 r20 hr21) (by repeat (first | exact trivial | exact rfl | (refine And.intro ?_ ?_))) trivial rfl ?_
              refine bselT hb19 ?_
              refine bselT hb19 ?_
              refine bselM h10 (fun hb22 h10 => ?_) (fun hb22 h10 => ?_)
              · refine bselT hb22 ?_
                refine bselT hb22 ?_
                obtain ⟨r23, hr24, h10⟩ := bindM h10
                show CallOk Try.prog _ _ _ _
                refine CallOk.as (value_Slot_ok N r1.1 r1.2.1 (1 : Int) r23 hr24) (by repeat (first | exact trivial | exact rfl | (refine And.intro ?_ ?_))) trivial rfl ?_
                refine bselT hb22 ?_
                refine bselT hb22 ?_
                refine bselT hb22 ?_
                refine bselM h10 (fun hb25 h10 => ?_) (fun hb25 h10 => ?_)
                · obtain ⟨r26, hr27, h10⟩ := bindM h10
                  show CallOk Try.prog _ _ _ _
                  refine CallOk.as (value_Bool_ok N true r26 hr27) (by repeat (first | exact trivial | exact rfl | (refine And.intro ?_ ?_))) trivial rfl ?_
                  refine bselT hb25 ?_
                  refine bselT hb25 ?_
                  refine bselT hb25 ?_
                  refine bselM h10 (fun hb28 h10 => ?_) (fun hb28 h10 => ?_)
                  · refine bselT hb28 ?_
                    obtain ⟨r29, hr30, h10⟩ := bindM h10
                    show CallOk Try.prog _ _ _ _
                    refine CallOk.as (value_Wrong_ok N r1.2.1 (0 : Int) r29 hr30) (by repeat (first | exact trivial | exact rfl | (refine And.intro ?_ ?_))) trivial rfl ?_
                    refine bselT hb28 ?_
                    refine bselT hb28 ?_
                    refine bselM h10 (fun hb31 h10 => ?_) (fun hb31 h10 => ?_)
                    · refine bselT hb31 ?_
                      obtain ⟨r32, hr33, h10⟩ := bindM h10
                      show CallOk Try.prog _ _ _ _
                      refine CallOk.as ((value_Own_ok N r1.1 r32 hr33).sw 0 63) (by repeat (first | exact trivial | exact rfl | (refine And.intro ?_ ?_))) trivial rfl ?_
                      refine bselT hb31 ?_
                      refine lenM (fun hl34 => ?_)
                      refine bselT hb31 ?_
                      refine bselT hb31 ?_
                      refine qn10 _ _ ?_
                      obtain rfl := Option.some.inj h10
                      refine EOk.done ?_
                      exact ⟨⟨_, rfl⟩, [], trivial, ⟨⟨rfl, trivial⟩, trivial, rfl, rfl⟩⟩
                    · refine bselF hb31 ?_
                      refine bselF hb31 ?_
                      refine bselF hb31 ?_
                      refine bselF hb31 ?_
                      refine qn10 _ _ ?_
                      obtain rfl := Option.some.inj h10
                      refine EOk.done ?_
                      exact ⟨⟨_, rfl⟩, [], trivial, ⟨⟨rfl, trivial⟩, trivial, rfl, rfl⟩⟩
                  · refine bselF hb28 ?_
                    refine bselF hb28 ?_
                    refine bselF hb28 ?_
                    refine qn10 _ _ ?_
                    obtain rfl := Option.some.inj h10
                    refine EOk.done ?_
                    exact ⟨⟨_, rfl⟩, [], trivial, ⟨⟨rfl, trivial⟩, trivial, rfl, rfl⟩⟩
                · refine bselF hb25 ?_
                  refine bselF hb25 ?_
                  refine bselF hb25 ?_
                  refine qn10 _ _ ?_
                  obtain rfl := Option.some.inj h10
                  refine EOk.done ?_
                  exact ⟨⟨_, rfl⟩, [], trivial, ⟨⟨rfl, trivial⟩, trivial, rfl, rfl⟩⟩
              · refine bselF hb22 ?_
                refine bselF hb22 ?_
                refine bselF hb22 ?_
                refine bselF hb22 ?_
                refine bselF hb22 ?_
                refine qn10 _ _ ?_
                obtain rfl := Option.some.inj h10
                refine EOk.done ?_
                exact ⟨⟨_, rfl⟩, [], trivial, ⟨⟨rfl, trivial⟩, trivial, rfl, rfl⟩⟩
            · refine bselF hb19 ?_
              refine bselF hb19 ?_
              refine bselF hb19 ?_
              refine bselF hb19 ?_
              refine qn10 _ _ ?_
              obtain rfl := Option.some.inj h10
              refine EOk.done ?_
              exact ⟨⟨_, rfl⟩, [], trivial, ⟨⟨rfl, trivial⟩, trivial, rfl, rfl⟩⟩
          · refine bselF hb16 ?_
            refine bselF hb16 ?_
            refine bselF hb16 ?_
            refine qn10 _ _ ?_
            obtain rfl := Option.some.inj h10
            refine EOk.done ?_
            exact ⟨⟨_, rfl⟩, [], trivial, ⟨⟨rfl, trivial⟩, trivial, rfl, rfl⟩⟩
        · refine bselF hb15 ?_
          refine bselF hb15 ?_
          refine bselF hb15 ?_
          refine qn10 _ _ ?_
          obtain rfl := Option.some.inj h10
          refine EOk.done ?_
          exact ⟨⟨_, rfl⟩, [], trivial, ⟨⟨rfl, trivial⟩, trivial, rfl, rfl⟩⟩
      · refine bselF hb13 ?_
        refine bselF hb13 ?_
        refine bselF hb13 ?_
        refine qn10 _ _ ?_
        obtain rfl := Option.some.inj h10
        refine EOk.done ?_
        exact ⟨⟨_, rfl⟩, [], trivial, ⟨⟨rfl, trivial⟩, trivial, rfl, rfl⟩⟩
    · refine bselF hb12 ?_
      refine bselF hb12 ?_
      refine qn10 _ _ ?_
      obtain rfl := Option.some.inj h10
      refine EOk.done ?_
      exact ⟨⟨_, rfl⟩, [], trivial, ⟨⟨rfl, trivial⟩, trivial, rfl, rfl⟩⟩
  rintro ⟨v9, hv_⟩
  replace hv_ := hv_.symm
  subst hv_
  refine qn9 _ _ ?_
  refine got hn ?_
  obtain rfl := Option.some.inj h
  exact ⟨[], _, rfl, (by repeat (first | exact trivial | exact rfl | (refine And.intro ?_ ?_))), trivial, rfl, rfl, rfl, rfl, rfl⟩

/- qclaw1.ValueNew -/
set_option maxRecDepth 100000 in
set_option maxHeartbeats 1000000 in
theorem qclaw1_ValueNew_ok (N : Nat) (a0 : (List Ob)) (a1 : Int) (a2 : Int) (r : Bool) (h : qclaw1_ValueNew N a0 a1 a2 = some r) : Spec Try.prog 6 [] [.sl 2 (List.map eOb a0), .int a1, .int a2] (.bool r) [] [] := by
  refine Spec.of tabOk Try.func6 rfl Try.ntmps6 (by kernel_rfl) rfl rfl rfl fun Γ hn => ?_
  unfold qclaw1_ValueNew at h
  refine COk.seqQ fun Q70 qn70 qx70 qr70 => ?_
  refine gor hn ?_
  refine qn70 _ _ ?_
  refine COk.seqQ fun Q71 qn71 qx71 qr71 => ?_
  refine COk.seqQ fun Q72 qn72 qx72 qr72 => ?_
  refine gor hn ?_
  obtain ⟨r1, hr2, h⟩ := bindM h
  show CallOk Try.prog _ _ _ _
  refine CallOk.as (qclaw1_alive_ok N  r1 hr2) (by repeat (first | exact trivial | exact rfl | (refine And.intro ?_ ?_))) trivial rfl ?_
  refine qn72 _ _ ?_
  refine goc hn ?_
  refine bselM h (fun hb3 h => ?_) (fun hb3 h => ?_)
  · refine COk.seqQ fun Q74 qn74 qx74 qr74 => ?_
    refine gor hn ?_
    refine qn74 _ _ ?_
    refine got hn ?_
    refine qr71 _ _ ?_
    obtain rfl := Option.some.inj h
    exact ⟨[], _, rfl, (by repeat (first | exact trivial | exact rfl | (refine And.intro ?_ ?_))), trivial, rfl, rfl, rfl, rfl, rfl⟩
  · refine gok hn ?_
    refine qn71 _ _ ?_
    refine COk.seqQ fun Q75 qn75 qx75 qr75 => ?_
    refine COk.seqQ fun Q76 qn76 qx76 qr76 => ?_
    obtain ⟨o6, h5, h⟩ := bindM h
    refine COk.joinR (ι := { s : Bool // o6 = s }) (fun s => [(0, .sl 2 (List.map eOb a0)), (1, .int a1), (2, .int a2), (18, .bool s.1)]) (fun s => []) (fun Q77 qn77 qx77 qr77 => ?_) (by intro s; rw [hn]; rfl) ?_
    · refine gor hn ?_
      refine bselM h5 (fun hb7 h5 => ?_) (fun hb7 h5 => ?_)
      · refine bselT hb7 ?_
        refine bselT hb7 ?_
        refine qn77 _ _ ?_
        obtain rfl := Option.some.inj h5
        refine EOk.done ?_
        exact ⟨⟨_, rfl⟩, [], trivial, ⟨⟨(by repeat (first | exact trivial | exact rfl | (refine And.intro ?_ ?_))), rfl, rfl, rfl, trivial⟩, trivial, rfl, rfl⟩⟩
      · refine bselF hb7 ?_
        refine bselF hb7 ?_
        refine qn77 _ _ ?_
        obtain rfl := Option.some.inj h5
        refine EOk.done ?_
        exact ⟨⟨_, rfl⟩, [], trivial, ⟨⟨(by repeat (first | exact trivial | exact rfl | (refine And.intro ?_ ?_))), rfl, rfl, rfl, trivial⟩, trivial, rfl, rfl⟩⟩
    rintro ⟨v4, hv_⟩
    replace hv_ := hv_.symm
    subst hv_
    refine qn76 _ _ ?_
    refine goc hn ?_
    refine bselM h (fun hb8 h => ?_) (fun hb8 h => ?_)
    · refine COk.seqQ fun Q79 qn79 qx79 qr79 => ?_
      refine gor hn ?_
      refine qn79 _ _ ?_
      refine got hn ?_
      refine qr75 _ _ ?_
      obtain rfl := Option.some.inj h
      exact ⟨[], _, rfl, (by repeat (first | exact trivial | exact rfl | (refine And.intro ?_ ?_))), trivial, rfl, rfl, rfl, rfl, rfl⟩
    · refine gok hn ?_
      refine qn75 _ _ ?_
      refine COk.seqQ fun Q80 qn80 qx80 qr80 => ?_
      refine gor hn ?_
      obtain ⟨r9, hr10, h⟩ := bindM h
      show CallOk Try.prog _ _ _ _
      refine CallOk.as ((value_New_ok N a0 a1 a2 r9 hr10).sw 0 23) (by repeat (first | exact trivial | exact rfl | (refine And.intro ?_ ?_))) trivial rfl ?_
      refine qn80 _ _ ?_
      refine COk.seqQ fun Q81 qn81 qx81 qr81 => ?_
      refine COk.seqQ fun Q82 qn82 qx82 qr82 => ?_
      refine gor hn ?_
      refine qn82 _ _ ?_
      refine goc hn ?_
      refine bselM h (fun hb11 h => ?_) (fun hb11 h => ?_)
      · refine COk.seqQ fun Q85 qn85 qx85 qr85 => ?_
        obtain ⟨o14, h13, h⟩ := bindM h
        refine COk.joinR (ι := { s : Bool // o14 = s }) (fun s => [(6, .bool s.1)]) (fun s => []) (fun Q86 qn86 qx86 qr86 => ?_) (by intro s; rw [hn]; rfl) ?_
        · refine COk.sub (ts2 := [(0, .sl 2 (List.map eOb a0)), (7, .own 23), (9, .int r9.2.2)]) (os2 := [(23, .row 2 (List.map eOb r9.1) 60)]) [] ⟨⟨(by repeat (first | exact trivial | exact rfl | (refine And.intro ?_ ?_))), rfl, rfl, trivial⟩, ⟨rfl, trivial⟩, rfl, rfl⟩ (by rw [hn]; rfl) ?_
          refine gor hn ?_
          refine bselM h13 (fun hb15 h13 => ?_) (fun hb15 h13 => ?_)
          · refine bselT hb15 ?_
            refine lenM (fun hl16 => ?_)
            refine bselT hb15 ?_
            refine bselT hb15 ?_
            refine bselM h13 (fun hb17 h13 => ?_) (fun hb17 h13 => ?_)
            · refine bselT hb17 ?_
              refine lenM (fun hl18 => ?_)
              refine bselT hb17 ?_
              refine bselT hb17 ?_
              refine qn86 _ _ ?_
              obtain rfl := Option.some.inj h13
              refine EOk.done ?_
              exact ⟨⟨_, rfl⟩, [], trivial, ⟨⟨rfl, trivial⟩, trivial, rfl, rfl⟩⟩
            · refine bselF hb17 ?_
              refine bselF hb17 ?_
              refine bselF hb17 ?_
              refine qn86 _ _ ?_
              obtain rfl := Option.some.inj h13
              refine EOk.done ?_
              exact ⟨⟨_, rfl⟩, [], trivial, ⟨⟨rfl, trivial⟩, trivial, rfl, rfl⟩⟩
          · refine bselF hb15 ?_
            refine bselF hb15 ?_
            refine bselF hb15 ?_
            refine qn86 _ _ ?_
            obtain rfl := Option.some.inj h13
            refine EOk.done ?_
            exact ⟨⟨_, rfl⟩, [], trivial, ⟨⟨rfl, trivial⟩, trivial, rfl, rfl⟩⟩
        rintro ⟨v12, hv_⟩
        replace hv_ := hv_.symm
        subst hv_
        refine qn85 _ _ ?_
        refine got hn ?_
        refine qr81 _ _ ?_
        obtain rfl := Option.some.inj h
        exact ⟨[], _, rfl, (by repeat (first | exact trivial | exact rfl | (refine And.intro ?_ ?_))), trivial, rfl, rfl, rfl, rfl, rfl⟩
      · refine gok hn ?_
        refine qn81 _ _ ?_
        refine COk.seqQ fun Q87 qn87 qx87 qr87 => ?_
        refine COk.seqQ fun Q88 qn88 qx88 qr88 => ?_
        obtain ⟨o21, h20, h⟩ := bindM h
        refine COk.joinR (ι := { s : Bool // o21 = s }) (fun s => [(0, .sl 2 (List.map eOb a0)), (2, .int a2), (7, .own 23), (8, .ptr 8 0), (71, .bool s.1)]) (fun s => [(8, .box (eV r9.2.1) 45), (23, .row 2 (List.map eOb r9.1) 60)]) (fun Q89 qn89 qx89 qr89 => ?_) (by intro s; rw [hn]; rfl) ?_
        · refine COk.sub (ts2 := [(0, .sl 2 (List.map eOb a0)), (1, .int a1), (2, .int a2), (7, .own 23), (8, .ptr 8 0)]) (os2 := [(8, .box (eV r9.2.1) 45), (23, .row 2 (List.map eOb r9.1) 60)]) [] ⟨⟨(by repeat (first | exact trivial | exact rfl | (refine And.intro ?_ ?_))), rfl, rfl, rfl, rfl, trivial⟩, ⟨rfl, rfl, trivial⟩, rfl, rfl⟩ (by rw [hn]; rfl) ?_
          refine gor hn ?_
          refine lenM (fun hl22 => ?_)
          refine lenM (fun hl23 => ?_)
          refine Or.inr ?_
          refine bselM h20 (fun hb24 h20 => ?_) (fun hb24 h20 => ?_)
          · refine bselT hb24 ?_
            refine bselT hb24 ?_
            refine bselT hb24 ?_
            refine bselT hb24 ?_
            refine bselT hb24 ?_
            refine qn89 _ _ ?_
            obtain rfl := Option.some.inj h20
            refine EOk.done ?_
            exact ⟨⟨_, rfl⟩, [], trivial, ⟨⟨(by repeat (first | exact trivial | exact rfl | (refine And.intro ?_ ?_))), rfl, rfl, rfl, rfl, trivial⟩, ⟨rfl, rfl, trivial⟩, rfl, rfl⟩⟩
          · refine bselF hb24 ?_
            refine bselF hb24 ?_
            refine lenM (fun hl25 => ?_)
            refine bselF hb24 ?_
            refine bselF hb24 ?_
            refine bselF hb24 ?_
            refine bselM h20 (fun hb26 h20 => ?_) (fun hb26 h20 => ?_)
            · refine bselT hb26 ?_
              refine bselT hb26 ?_
              refine bselT hb26 ?_
              refine bselT hb26 ?_
              refine bselT hb26 ?_
              refine qn89 _ _ ?_
              obtain rfl := Option.some.inj h20
              refine EOk.done ?_
              exact ⟨⟨_, rfl⟩, [], trivial, ⟨⟨(by repeat (first | exact trivial | exact rfl | (refine And.intro ?_ ?_))), rfl, rfl, rfl, rfl, trivial⟩, ⟨rfl, rfl, trivial⟩, rfl, rfl⟩⟩
            · refine bselF hb26 ?_
              refine bselF hb26 ?_
              obtain ⟨r27, hr28, h20⟩ := bindM h20
              show CallOk Try.prog _ _ _ _
              refine CallOk.lend (value_Class_ok N r9.1 r9.2.1 r27 hr28) (by repeat (first | exact trivial | exact rfl | (refine And.intro ?_ ?_))) rfl ?_
              refine bselF hb26 ?_
              refine bselF hb26 ?_
              refine bselF hb26 ?_
              refine bselM h20 (fun hb29 h20 => ?_) (fun hb29 h20 => ?_)
              · refine bselT hb29 ?_
                refine bselT hb29 ?_
                refine bselT hb29 ?_
                refine bselT hb29 ?_
                refine bselT hb29 ?_
                refine bselT hb29 ?_
                refine bselT hb29 ?_
                refine bselT hb29 ?_
                refine bselT hb29 ?_
                refine qn89 _ _ ?_
                obtain rfl := Option.some.inj h20
                refine EOk.done ?_
                exact ⟨⟨_, rfl⟩, [], trivial, ⟨⟨(by repeat (first | exact trivial | exact rfl | (refine And.intro ?_ ?_))), rfl, rfl, rfl, rfl, trivial⟩, ⟨rfl, rfl, trivial⟩, rfl, rfl⟩⟩
              · refine bselF hb29 ?_
                refine bselF hb29 ?_
                refine lenM (fun hl30 => ?_)
                refine bselF hb29 ?_
                obtain ⟨x31, hx32, h20⟩ := bindM h20
                refine ownM hx32 ?_
                refine bselF hb29 ?_
                refine bselF hb29 ?_
                refine ldM (nthO_some hx32).2 ?_
                refine bselF hb29 ?_
                refine lenM (fun hl33 => ?_)
                refine bselF hb29 ?_
                refine bselF hb29 ?_
                refine bselF hb29 ?_
                refine qn89 _ _ ?_
                obtain rfl := Option.some.inj h20
                refine EOk.done ?_
                exact ⟨⟨_, rfl⟩, [], trivial, ⟨⟨(by repeat (first | exact trivial | exact rfl | (refine And.intro ?_ ?_))), rfl, rfl, rfl, rfl, trivial⟩, ⟨rfl, rfl, trivial⟩, rfl, rfl⟩⟩
        rintro ⟨v19, hv_⟩
        replace hv_ := hv_.symm
        subst hv_
        refine qn88 _ _ ?_
        refine goc hn ?_
        refine bselM h (fun hb34 h => ?_) (fun hb34 h => ?_)
        · refine COk.seqQ fun Q91 qn91 qx91 qr91 => ?_
          refine gor hn ?_
          refine qn91 _ _ ?_
          refine got hn ?_
          refine qr87 _ _ ?_
          obtain rfl := Option.some.inj h
          exact ⟨[], _, rfl, (by repeat (first | exact trivial | exact rfl | (refine And.intro ?_ ?_))), trivial, rfl, rfl, rfl, rfl, rfl⟩
        · refine gok hn ?_
          refine qn87 _ _ ?_
          refine COk.seqQ fun Q92 qn92 qx92 qr92 => ?_
          refine COk.seqQ fun Q93 qn93 qx93 qr93 => ?_
          refine gor hn ?_
          refine qn93 _ _ ?_
          refine COk.rng 72 rfl (fun hrn => ?_)
          obtain ⟨o36, h37, h⟩ := bindM h
          refine COk.joinR (ι := { s : Unit // o36 = Ctl.next s }) (fun s => [(0, .sl 2 (List.map eOb a0)), (7, .own 23)]) (fun s => [(23, .row 2 (List.map eOb r9.1) 60)]) (fun Q120 qn120 qx120 qr120 => ?_) (by intro s; rw [hn]; rfl) ?_
          · refine COk.blkQ fun Q121 qn121 qe121 qx121 qr121 => ?_
            refine COk.loopQ (ι := { q : (Nat × Nat) // q.1 = (a2 - (q.2 : Int)).toNat ∧ qclaw1_ValueNew_l1 N r9 q.1 q.2 = some o36 }) (fun q => [(0, .sl 2 (List.map eOb a0)), (7, .own 23), (8, .ptr 8 0), (72, .int a2), (73, .int (q.1.2 : Int))]) (fun q => [(8, .box (eV r9.2.1) 45), (23, .row 2 (List.map eOb r9.1) 60)]) (fun q => q.1.1) ⟨((a2 - ((0 : Nat) : Int)).toNat, 0), rfl, h37⟩ [] ⟨⟨(by repeat (first | exact trivial | exact rfl | (refine And.intro ?_ ?_))), rfl, rfl, rfl, rfl, trivial⟩, ⟨rfl, rfl, trivial⟩, rfl, rfl⟩ (by intro q; rw [hn]; rfl) ?_
            rintro ⟨⟨n_, k35⟩, hd39, h37⟩ Q122 qn122 qx122 qr122
            replace hd39 : n_ = (a2 - (k35 : Int)).toNat := hd39
            rcases n_ with _ | n40
            · have hlt43 := upNil hd39
              replace h37 := (qclaw1_ValueNew_l1.eq_1 _ _ _).symm.trans h37
              refine COk.seqQ fun Q123 qn123 qx123 qr123 => ?_
              refine gor hn ?_
              refine qn123 _ _ ?_
              refine COk.seqQ fun Q124 qn124 qx124 qr124 => ?_
              refine goc hn ?_
              refine bselF hlt43 ?_
              refine goe hn ?_
              refine qx124 _ _ _ ?_
              refine qx122 _ _ _ ?_
              refine qe121 _ _ ?_
              refine qn120 _ _ ?_
              obtain rfl := Option.some.inj h37
              refine EOk.done ?_
              exact ⟨⟨_, rfl⟩, [], trivial, ⟨⟨(by repeat (first | exact trivial | exact rfl | (refine And.intro ?_ ?_))), rfl, trivial⟩, ⟨rfl, trivial⟩, rfl, rfl⟩⟩
            · obtain ⟨hd2, hlt43⟩ := upCons hd39
              replace h37 := (qclaw1_ValueNew_l1.eq_2 _ _ _ _).symm.trans h37
              refine COk.seqQ fun Q125 qn125 qx125 qr125 => ?_
              refine gor hn ?_
              refine qn125 _ _ ?_
              refine COk.seqQ fun Q126 qn126 qx126 qr126 => ?_
              refine goc hn ?_
              refine bselT hlt43 ?_
              refine gok hn ?_
              refine qn126 _ _ ?_
              refine COk.seqQ fun Q127 qn127 qx127 qr127 => ?_
              refine COk.blkQ fun Q133 qn133 qe133 qx133 qr133 => ?_
              refine COk.seqQ fun Q134 qn134 qx134 qr134 => ?_
              refine gor hn ?_
              refine qn134 _ _ ?_
              refine COk.seqQ fun Q135 qn135 qx135 qr135 => ?_
              refine gor hn ?_
              obtain ⟨r44, hr45, h37⟩ := bindM h37
              show CallOk Try.prog _ _ _ _
              refine CallOk.lend (value_Slot_ok N r9.1 r9.2.1 (k35 : Int) r44 hr45) (by repeat (first | exact trivial | exact rfl | (refine And.intro ?_ ?_))) rfl ?_
              refine qn135 _ _ ?_
              refine goc hn ?_
              refine bselM h37 (fun hb46 h37 => ?_) (fun hb46 h37 => ?_)
              · refine COk.seqQ fun Q137 qn137 qx137 qr137 => ?_
                refine gor hn ?_
                refine qn137 _ _ ?_
                refine got hn ?_
                refine qr133 _ _ ?_
                refine qr127 _ _ ?_
                refine qr122 _ _ ?_
                refine qr121 _ _ ?_
                refine qr120 _ _ ?_
                refine qr92 _ _ ?_
                obtain rfl := Option.some.inj h37
                obtain rfl := Option.some.inj h
                exact ⟨[], _, rfl, (by repeat (first | exact trivial | exact rfl | (refine And.intro ?_ ?_))), trivial, rfl, rfl, rfl, rfl, rfl⟩
              · refine gok hn ?_
                refine qn133 _ _ ?_
                refine qn127 _ _ ?_
                refine gor hn ?_
                refine Or.inl (And.intro (inrU hlt43 hrn) ?_)
                refine qn122 _ _ ?_
                refine EOk.done ?_
                exact ⟨⟨(n40, k35 + 1), hd2, h37⟩, [], by show n40 < n40 + 1; omega, ⟨⟨(by repeat (first | exact trivial | exact rfl | (refine And.intro ?_ ?_))), rfl, rfl, rfl, rfl, trivial⟩, ⟨rfl, rfl, trivial⟩, rfl, rfl⟩⟩
          rintro ⟨⟨⟩, rfl⟩
          refine qn92 _ _ ?_
          refine COk.seqQ fun Q138 qn138 qx138 qr138 => ?_
          refine COk.fzAll 23 rfl ?_
          refine COk.sub (ts2 := [(0, .sl 2 (List.map eOb a0)), (7, .sl 2 (List.map eOb r9.1))]) (os2 := []) [] ⟨⟨(by repeat (first | exact trivial | exact rfl | (refine And.intro ?_ ?_))), (by repeat (first | exact trivial | exact rfl | (refine And.intro ?_ ?_))), trivial⟩, trivial, rfl, rfl⟩ (by rw [hn]; rfl) ?_
          refine gor hn ?_
          refine lenM (fun hl47 => ?_)
          obtain ⟨hg48, h⟩ := guardM h
          refine takeM hg48 rfl rfl ?_
          obtain ⟨r49, hr50, h⟩ := bindM h
          show CallOk Try.prog _ _ _ _
          refine CallOk.as (qcref1_SameWorld_ok N (⟨[], (r9.1.take (a0.length : Int).toNat), (0 : Int)⟩ : Wd) (⟨[], a0, (0 : Int)⟩ : Wd) r49 hr50) (by repeat (first | exact trivial | exact rfl | (refine And.intro ?_ ?_))) trivial rfl ?_
          refine qn138 _ _ ?_
          refine got hn ?_
          obtain rfl := Option.some.inj h
          exact ⟨[], _, rfl, (by repeat (first | exact trivial | exact rfl | (refine And.intro ?_ ?_))), trivial, rfl, rfl, rfl, rfl, rfl⟩
end Go.Proofs.Ytioalgofaiideaa
