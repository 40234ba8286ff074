/- Walks after the mirrors. Printed by mir.py. -/
import Derived.Test.YtioalgofaiideaaWk1
namespace Go.Proofs.Ytioalgofaiideaa
open Go.RowKit
set_option linter.unusedVariables false
/- code.effect -/
set_option maxRecDepth 100000 in
set_option maxHeartbeats 1000000 in
theorem code_effect_ok (N : Nat) (a0 : Ins) (r : (Int × Int)) (h : code_effect N a0 = some r) : Spec Try.prog 75 [] [.agg (eIns a0)] (.tup [.int r.1, .int r.2]) [] [] := by
  refine Spec.of tabOk Try.func75 rfl Try.ntmps75 (by kernel_rfl) rfl rfl rfl fun Γ hn => ?_
  unfold code_effect at h
  refine COk.seqQ fun Q77 qn77 qx77 qr77 => ?_
  refine gor hn ?_
  refine qn77 _ _ ?_
  refine COk.seqQ fun Q78 qn78 qx78 qr78 => ?_
  refine COk.seqQ fun Q79 qn79 qx79 qr79 => ?_
  refine gor hn ?_
  refine qn79 _ _ ?_
  refine COk.blkQ fun Q135 qn135 qe135 qx135 qr135 => ?_
  refine COk.seqQ fun Q136 qn136 qx136 qr136 => ?_
  refine COk.seqQ fun Q137 qn137 qx137 qr137 => ?_
  refine gor hn ?_
  refine qn137 _ _ ?_
  obtain ⟨o3, h2, h⟩ := bindM h
  refine COk.joinR (ι := { s : Bool // o3 = s }) (fun s => [(1, .ptr 1 0), (5, .int a0.op), (6, .bool s.1)]) (fun s => [(1, .box (eIns a0) 81)]) (fun Q138 qn138 qx138 qr138 => ?_) (by intro s; rw [hn]; rfl) ?_
  · refine goc hn ?_
    refine bselM h2 (fun hb4 h2 => ?_) (fun hb4 h2 => ?_)
    · refine gok hn ?_
      refine qn138 _ _ ?_
      obtain rfl := Option.some.inj h2
      refine EOk.done ?_
      exact ⟨⟨_, rfl⟩, [], trivial, ⟨⟨rfl, rfl, rfl, trivial⟩, ⟨rfl, trivial⟩, rfl, rfl⟩⟩
    · refine COk.seqQ fun Q139 qn139 qx139 qr139 => ?_
      refine gor hn ?_
      refine qn139 _ _ ?_
      obtain ⟨o7, h6, h2⟩ := bindM h2
      refine COk.joinR (ι := { s : Bool // o7 = s }) (fun s => [(1, .ptr 1 0), (5, .int a0.op), (6, .bool s.1)]) (fun s => [(1, .box (eIns a0) 81)]) (fun Q140 qn140 qx140 qr140 => ?_) (by intro s; rw [hn]; rfl) ?_
      · refine goc hn ?_
        refine bselM h6 (fun hb8 h6 => ?_) (fun hb8 h6 => ?_)
        · refine gok hn ?_
          refine qn140 _ _ ?_
          obtain rfl := Option.some.inj h6
          refine EOk.done ?_
          exact ⟨⟨_, rfl⟩, [], trivial, ⟨⟨rfl, rfl, rfl, trivial⟩, ⟨rfl, trivial⟩, rfl, rfl⟩⟩
        · refine COk.seqQ fun Q141 qn141 qx141 qr141 => ?_
          refine gor hn ?_
          refine qn141 _ _ ?_
          obtain ⟨o11, h10, h6⟩ := bindM h6
          refine COk.joinR (ι := { s : Bool // o11 = s }) (fun s => [(1, .ptr 1 0), (5, .int a0.op), (6, .bool s.1)]) (fun s => [(1, .box (eIns a0) 81)]) (fun Q142 qn142 qx142 qr142 => ?_) (by intro s; rw [hn]; rfl) ?_
          · refine goc hn ?_
            refine bselM h10 (fun hb12 h10 => ?_) (fun hb12 h10 => ?_)
            · refine gok hn ?_
              refine qn142 _ _ ?_
              obtain rfl := Option.some.inj h10
              refine EOk.done ?_
              exact ⟨⟨_, rfl⟩, [], trivial, ⟨⟨rfl, rfl, rfl, trivial⟩, ⟨rfl, trivial⟩, rfl, rfl⟩⟩
            · refine COk.seqQ fun Q143 qn143 qx143 qr143 => ?_
              refine gor hn ?_
              refine qn143 _ _ ?_
              obtain ⟨o15, h14, h10⟩ := bindM h10
              refine COk.joinR (ι := { s : Bool // o15 = s }) (fun s => [(1, .ptr 1 0), (5, .int a0.op), (6, .bool s.1)]) (fun s => [(1, .box (eIns a0) 81)]) (fun Q144 qn144 qx144 qr144 => ?_) (by intro s; rw [hn]; rfl) ?_
              · refine goc hn ?_
                refine bselM h14 (fun hb16 h14 => ?_) (fun hb16 h14 => ?_)
                · refine gok hn ?_
                  refine qn144 _ _ ?_
                  obtain rfl := Option.some.inj h14
                  refine EOk.done ?_
                  exact ⟨⟨_, rfl⟩, [], trivial, ⟨⟨rfl, rfl, rfl, trivial⟩, ⟨rfl, trivial⟩, rfl, rfl⟩⟩
                · refine gor hn ?_
                  refine qn144 _ _ ?_
                  obtain rfl := Option.some.inj h14
                  refine EOk.done ?_
                  exact ⟨⟨_, rfl⟩, [], trivial, ⟨⟨rfl, rfl, rfl, trivial⟩, ⟨rfl, trivial⟩, rfl, rfl⟩⟩
              rintro ⟨v13, hv_⟩
              replace hv_ := hv_.symm
              subst hv_
              refine qn142 _ _ ?_
              obtain rfl := Option.some.inj h10
              refine EOk.done ?_
              exact ⟨⟨_, rfl⟩, [], trivial, ⟨⟨rfl, rfl, rfl, trivial⟩, ⟨rfl, trivial⟩, rfl, rfl⟩⟩
          rintro ⟨v9, hv_⟩
          replace hv_ := hv_.symm
          subst hv_
          refine qn140 _ _ ?_
          obtain rfl := Option.some.inj h6
          refine EOk.done ?_
          exact ⟨⟨_, rfl⟩, [], trivial, ⟨⟨rfl, rfl, rfl, trivial⟩, ⟨rfl, trivial⟩, rfl, rfl⟩⟩
      rintro ⟨v5, hv_⟩
      replace hv_ := hv_.symm
      subst hv_
      refine qn138 _ _ ?_
      obtain rfl := Option.some.inj h2
      refine EOk.done ?_
      exact ⟨⟨_, rfl⟩, [], trivial, ⟨⟨rfl, rfl, rfl, trivial⟩, ⟨rfl, trivial⟩, rfl, rfl⟩⟩
  rintro ⟨v1, hv_⟩
  replace hv_ := hv_.symm
  subst hv_
  refine qn136 _ _ ?_
  refine goc hn ?_
  refine bselM h (fun hb17 h => ?_) (fun hb17 h => ?_)
  · refine COk.seqQ fun Q145 qn145 qx145 qr145 => ?_
    refine gor hn ?_
    refine qn145 _ _ ?_
    refine got hn ?_
    refine qr135 _ _ ?_
    refine qr78 _ _ ?_
    obtain rfl := Option.some.inj h
    exact ⟨[], _, rfl, (by repeat (first | exact trivial | exact rfl | (refine And.intro ?_ ?_))), trivial, rfl, rfl, rfl, rfl, rfl⟩
  · refine COk.seqQ fun Q146 qn146 qx146 qr146 => ?_
    refine gor hn ?_
    refine qn146 _ _ ?_
    refine goc hn ?_
    refine bselM h (fun hb18 h => ?_) (fun hb18 h => ?_)
    · refine COk.seqQ fun Q147 qn147 qx147 qr147 => ?_
      refine gor hn ?_
      refine qn147 _ _ ?_
      refine got hn ?_
      refine qr135 _ _ ?_
      refine qr78 _ _ ?_
      obtain rfl := Option.some.inj h
      exact ⟨[], _, rfl, (by repeat (first | exact trivial | exact rfl | (refine And.intro ?_ ?_))), trivial, rfl, rfl, rfl, rfl, rfl⟩
    · refine COk.seqQ fun Q148 qn148 qx148 qr148 => ?_
      refine gor hn ?_
      refine qn148 _ _ ?_
      refine goc hn ?_
      refine bselM h (fun hb19 h => ?_) (fun hb19 h => ?_)
      · refine COk.seqQ fun Q149 qn149 qx149 qr149 => ?_
        refine gor hn ?_
        refine Or.inr ?_
        refine qn149 _ _ ?_
        refine got hn ?_
        refine qr135 _ _ ?_
        refine qr78 _ _ ?_
        obtain rfl := Option.some.inj h
        exact ⟨[], _, rfl, (by repeat (first | exact trivial | exact rfl | (refine And.intro ?_ ?_))), trivial, rfl, rfl, rfl, rfl, rfl⟩
      · refine COk.seqQ fun Q150 qn150 qx150 qr150 => ?_
        refine gor hn ?_
        refine qn150 _ _ ?_
        refine goc hn ?_
        refine bselM h (fun hb20 h => ?_) (fun hb20 h => ?_)
        · refine COk.seqQ fun Q151 qn151 qx151 qr151 => ?_
          refine gor hn ?_
          refine qn151 _ _ ?_
          refine got hn ?_
          refine qr135 _ _ ?_
          refine qr78 _ _ ?_
          obtain rfl := Option.some.inj h
          exact ⟨[], _, rfl, (by repeat (first | exact trivial | exact rfl | (refine And.intro ?_ ?_))), trivial, rfl, rfl, rfl, rfl, rfl⟩
        · refine gok hn ?_
          refine qn135 _ _ ?_
          refine qn78 _ _ ?_
          refine COk.seqQ fun Q152 qn152 qx152 qr152 => ?_
          refine gor hn ?_
          refine qn152 _ _ ?_
          refine got hn ?_
          obtain rfl := Option.some.inj h
          exact ⟨[], _, rfl, (by repeat (first | exact trivial | exact rfl | (refine And.intro ?_ ?_))), trivial, rfl, rfl, rfl, rfl, rfl⟩

/- code.Heights -/
set_option maxRecDepth 100000 in
set_option maxHeartbeats 1000000 in
theorem code_Heights_ok (N : Nat) (a0 : Me) (r : ((List Int) × TFault)) (h : code_Heights N a0 = some r) : Spec Try.prog 50 [] [.agg (eMe a0)] (.tup [.own 0, .agg (eTFault r.2)]) [(0, .row 1 (List.map eInt r.1) 3)] [0] := by
  refine Spec.of tabOk Try.func50 rfl Try.ntmps50 (by kernel_rfl) rfl rfl rfl fun Γ hn => ?_
  unfold code_Heights at h
  refine COk.seqQ fun Q352 qn352 qx352 qr352 => ?_
  refine gor hn ?_
  refine qn352 _ _ ?_
  refine COk.seqQ fun Q353 qn353 qx353 qr353 => ?_
  refine gor hn ?_
  refine lenM (fun hl1 => ?_)
  obtain ⟨hg2, h⟩ := guardM h
  refine mkM (enc := eInt) (x := (0 : Int)) hg2 (by repeat (first | exact trivial | exact rfl | (refine And.intro ?_ ?_))) ?_
  refine qn353 _ _ ?_
  refine COk.seqQ fun Q354 qn354 qx354 qr354 => ?_
  refine COk.seqQ fun Q355 qn355 qx355 qr355 => ?_
  refine gor hn ?_
  refine lenM (fun hl3 => ?_)
  refine qn355 _ _ ?_
  refine COk.rng 17 rfl (fun hrn => ?_)
  obtain ⟨o8, h9, h⟩ := bindM h
  refine COk.joinR (ι := { s : (List Int) // o8 = s }) (fun s => [(1, .ptr 1 0), (3, .ptr 3 0), (4, .own 15)]) (fun s => [(1, .box (eMe a0) 74), (3, .box [.int (0 : Int), .int (0 : Int)] 85), (15, .row 1 (List.map eInt s.1) 3)]) (fun Q377 qn377 qx377 qr377 => ?_) (by intro s; rw [hn]; rfl) ?_
  · refine COk.blkQ fun Q378 qn378 qe378 qx378 qr378 => ?_
    refine COk.loopQ (ι := { q : (Nat × Nat × (List Int)) // q.1 = (((List.replicate (a0.code.length : Int).toNat (0 : Int)).length : Int) - (q.2.1 : Int)).toNat ∧ code_Heights_l1 N q.1 q.2.1 q.2.2 = some o8 }) (fun q => [(1, .ptr 1 0), (3, .ptr 3 0), (4, .own 15), (17, .int ((List.replicate (a0.code.length : Int).toNat (0 : Int)).length : Int)), (18, .int (q.1.2.1 : Int))]) (fun q => [(1, .box (eMe a0) 74), (3, .box [.int (0 : Int), .int (0 : Int)] 85), (15, .row 1 (List.map eInt q.1.2.2) 3)]) (fun q => q.1.1) ⟨((((List.replicate (a0.code.length : Int).toNat (0 : Int)).length : Int) - ((0 : Nat) : Int)).toNat, 0, (List.replicate (a0.code.length : Int).toNat (0 : Int))), rfl, h9⟩ [] ⟨⟨rfl, rfl, rfl, rfl, rfl, trivial⟩, ⟨rfl, rfl, rfl, trivial⟩, rfl, rfl⟩ (by intro q; rw [hn]; rfl) ?_
    rintro ⟨⟨n_, k4, v5⟩, hd11, h9⟩ Q379 qn379 qx379 qr379
    replace hd11 : n_ = (((List.replicate (a0.code.length : Int).toNat (0 : Int)).length : Int) - (k4 : Int)).toNat := hd11
    rcases n_ with _ | n12
    · have hlt15 := upNil hd11
      replace h9 := (code_Heights_l1.eq_1 _ _ _).symm.trans h9
      refine COk.seqQ fun Q380 qn380 qx380 qr380 => ?_
      refine gor hn ?_
      refine qn380 _ _ ?_
      refine COk.seqQ fun Q381 qn381 qx381 qr381 => ?_
      refine goc hn ?_
      refine bselF hlt15 ?_
      refine goe hn ?_
      refine qx381 _ _ _ ?_
      refine qx379 _ _ _ ?_
      refine qe378 _ _ ?_
      refine qn377 _ _ ?_
      obtain rfl := Option.some.inj h9
      refine EOk.done ?_
      exact ⟨⟨_, rfl⟩, [], trivial, ⟨⟨rfl, rfl, rfl, trivial⟩, ⟨rfl, rfl, rfl, trivial⟩, rfl, rfl⟩⟩
    · obtain ⟨hd2, hlt15⟩ := upCons hd11
      replace h9 := (code_Heights_l1.eq_2 _ _ _ _).symm.trans h9
      refine COk.seqQ fun Q382 qn382 qx382 qr382 => ?_
      refine gor hn ?_
      refine qn382 _ _ ?_
      refine COk.seqQ fun Q383 qn383 qx383 qr383 => ?_
      refine goc hn ?_
      refine bselT hlt15 ?_
      refine gok hn ?_
      refine qn383 _ _ ?_
      refine COk.seqQ fun Q384 qn384 qx384 qr384 => ?_
      refine COk.blkQ fun Q387 qn387 qe387 qx387 qr387 => ?_
      refine COk.seqQ fun Q388 qn388 qx388 qr388 => ?_
      refine gor hn ?_
      refine qn388 _ _ ?_
      refine gor hn ?_
      obtain ⟨x16, hx17, h9⟩ := bindM h9
      refine ownM hx17 ?_
      refine ldM (nthO_some hx17).2 ?_
      refine Exists.intro (List.map eInt (v5.set ((k4 : Int).toNat) (-1 : Int))) (And.intro (leLs_set (nthO_some hx17).2 (by repeat (first | exact trivial | exact rfl | (refine And.intro ?_ ?_)))) ?_)
      refine qn387 _ _ ?_
      refine qn384 _ _ ?_
      refine gor hn ?_
      refine Or.inl (And.intro (inrU hlt15 hrn) ?_)
      refine qn379 _ _ ?_
      refine EOk.done ?_
      exact ⟨⟨(n12, k4 + 1, (v5.set ((k4 : Int).toNat) (-1 : Int))), hd2, h9⟩, [], by show n12 < n12 + 1; omega, ⟨⟨rfl, rfl, rfl, rfl, rfl, trivial⟩, ⟨rfl, rfl, rfl, trivial⟩, rfl, rfl⟩⟩
  rintro ⟨v7, hv_⟩
  replace hv_ := hv_.symm
  subst hv_
  refine qn354 _ _ ?_
  refine COk.seqQ fun Q389 qn389 qx389 qr389 => ?_
  refine gor hn ?_
  refine Exists.intro (List.map eArr2Int [(⟨(0 : Int), (0 : Int)⟩ : Arr2Int)]) (And.intro (by repeat (first | exact trivial | exact rfl | (refine And.intro ?_ ?_))) ?_)
  refine qn389 _ _ ?_
  refine COk.seqQ fun Q390 qn390 qx390 qr390 => ?_
  obtain ⟨o24, h25, h⟩ := bindM h
  refine COk.joinR (ι := { s : (List Int) // o24 = Ctl.next s }) (fun s => [(3, .ptr 3 0), (4, .own 15)]) (fun s => [(3, .box [.int (0 : Int), .int (0 : Int)] 85), (15, .row 1 (List.map eInt s.1) 3)]) (fun Q622 qn622 qx622 qr622 => ?_) (by intro s; rw [hn]; rfl) ?_
  · refine COk.blkQ fun Q623 qn623 qe623 qx623 qr623 => ?_
    refine COk.loopQ (ι := { q : (Nat × (List Int) × (List Arr2Int)) // code_Heights_l2 N a0 q.1 q.2.1 q.2.2 = some o24 }) (fun q => [(1, .ptr 1 0), (3, .ptr 3 0), (4, .own 15), (6, .own 26)]) (fun q => [(1, .box (eMe a0) 74), (3, .box [.int (0 : Int), .int (0 : Int)] 85), (15, .row 1 (List.map eInt q.1.2.1) 3), (26, .row 2 (List.map eArr2Int q.1.2.2) 115)]) (fun q => q.1.1) ⟨(N, v7, [(⟨(0 : Int), (0 : Int)⟩ : Arr2Int)]), h25⟩ [] ⟨⟨rfl, rfl, rfl, rfl, trivial⟩, ⟨rfl, rfl, rfl, rfl, trivial⟩, rfl, rfl⟩ (by intro q; rw [hn]; rfl) ?_
    rintro ⟨⟨n_, v19, v20⟩, h25⟩ Q624 qn624 qx624 qr624
    rcases n_ with _ | n28
    · rw [code_Heights_l2.eq_1] at h25
      cases h25
    · replace h25 := (code_Heights_l2.eq_2 _ _ _ _ _).symm.trans h25
      refine COk.seqQ fun Q625 qn625 qx625 qr625 => ?_
      refine COk.seqQ fun Q626 qn626 qx626 qr626 => ?_
      refine gor hn ?_
      refine lenM (fun hl29 => ?_)
      refine qn626 _ _ ?_
      refine goc hn ?_
      refine bselM h25 (fun hb30 h25 => ?_) (fun hb30 h25 => ?_)
      · refine gok hn ?_
        refine qn625 _ _ ?_
        obtain ⟨o34, h33, h25⟩ := bindM h25
        refine COk.joinR (ι := { s : ((List Int) × (List Arr2Int)) // o34 = Ctl.next s }) (fun s => [(1, .ptr 1 0), (3, .ptr 3 0), (4, .own 15), (6, .own 39)]) (fun s => [(1, .box (eMe a0) 74), (3, .box [.int (0 : Int), .int (0 : Int)] 85), (15, .row 1 (List.map eInt s.1.1) 3), (39, .row 2 (List.map eArr2Int s.1.2) 115)]) (fun Q664 qn664 qx664 qr664 => ?_) (by intro s; rw [hn]; rfl) ?_
        · refine COk.blkQ fun Q665 qn665 qe665 qx665 qr665 => ?_
          refine COk.seqQ fun Q666 qn666 qx666 qr666 => ?_
          refine god hn (by kernel_rfl) ?_
          obtain ⟨x35, hx36, h33⟩ := bindM h33
          refine ownM hx36 ?_
          refine And.intro (by decide) (And.intro (by decide) ?_)
          refine ldM (nthO_some hx36).2 ?_
          obtain ⟨x37, hx38, h33⟩ := bindM h33
          refine ownM hx38 ?_
          refine And.intro (by decide) (And.intro (by decide) ?_)
          refine ldM (nthO_some hx38).2 ?_
          refine qn666 _ _ ?_
          refine COk.seqQ fun Q667 qn667 qx667 qr667 => ?_
          refine COk.sub (ts2 := [(1, .ptr 1 0), (3, .ptr 3 0), (4, .own 15), (6, .own 26), (7, .int x35.f0), (8, .int x37.f1)]) (os2 := [(1, .box (eMe a0) 74), (3, .box [.int (0 : Int), .int (0 : Int)] 85), (15, .row 1 (List.map eInt v19) 3), (26, .row 2 (List.map eArr2Int v20) 115)]) [] ⟨⟨rfl, rfl, rfl, rfl, rfl, rfl, trivial⟩, ⟨rfl, rfl, rfl, rfl, trivial⟩, rfl, rfl⟩ (by rw [hn]; rfl) ?_
          refine gor hn ?_
          obtain ⟨hg39, h33⟩ := guardM h33
          refine dropM hg39 rfl rfl ?_
          refine qn667 _ _ ?_
          refine COk.seqQ fun Q668 qn668 qx668 qr668 => ?_
          refine COk.seqQ fun Q669 qn669 qx669 qr669 => ?_
          obtain ⟨o42, h41, h33⟩ := bindM h33
          refine COk.joinR (ι := { s : Bool // o42 = s }) (fun s => [(1, .ptr 1 0), (3, .ptr 3 0), (4, .own 15), (6, .own 39), (7, .int x35.f0), (8, .int x37.f1), (48, .bool s.1)]) (fun s => [(1, .box (eMe a0) 74), (3, .box [.int (0 : Int), .int (0 : Int)] 85), (15, .row 1 (List.map eInt v19) 3), (39, .row 2 (List.map eArr2Int (v20.drop (1 : Int).toNat)) 115)]) (fun Q670 qn670 qx670 qr670 => ?_) (by intro s; rw [hn]; rfl) ?_
          · refine gor hn ?_
            refine bselM h41 (fun hb43 h41 => ?_) (fun hb43 h41 => ?_)
            · refine bselT hb43 ?_
              refine bselT hb43 ?_
              refine bselT hb43 ?_
              refine bselT hb43 ?_
              refine bselT hb43 ?_
              refine qn670 _ _ ?_
              obtain rfl := Option.some.inj h41
              refine EOk.done ?_
              exact ⟨⟨_, rfl⟩, [], trivial, ⟨⟨rfl, rfl, rfl, rfl, rfl, rfl, rfl, trivial⟩, ⟨rfl, rfl, rfl, rfl, trivial⟩, rfl, rfl⟩⟩
            · refine bselF hb43 ?_
              refine bselF hb43 ?_
              refine bselF hb43 ?_
              refine lenM (fun hl44 => ?_)
              refine bselF hb43 ?_
              refine bselF hb43 ?_
              refine qn670 _ _ ?_
              obtain rfl := Option.some.inj h41
              refine EOk.done ?_
              exact ⟨⟨_, rfl⟩, [], trivial, ⟨⟨rfl, rfl, rfl, rfl, rfl, rfl, rfl, trivial⟩, ⟨rfl, rfl, rfl, rfl, trivial⟩, rfl, rfl⟩⟩
          rintro ⟨v40, hv_⟩
          replace hv_ := hv_.symm
          subst hv_
          refine qn669 _ _ ?_
          refine goc hn ?_
          refine bselM h33 (fun hb45 h33 => ?_) (fun hb45 h33 => ?_)
          · refine COk.seqQ fun Q672 qn672 qx672 qr672 => ?_
            refine god hn (by kernel_rfl) ?_
            refine lenM (fun hl46 => ?_)
            refine qn672 _ _ ?_
            refine COk.nilrow 2 202 1 3 rfl rfl rfl ?_
            refine got hn ?_
            refine qr668 _ _ ?_
            refine qr665 _ _ ?_
            refine qr664 _ _ ?_
            refine qr624 _ _ ?_
            refine qr623 _ _ ?_
            refine qr622 _ _ ?_
            refine qr390 _ _ ?_
            obtain rfl := Option.some.inj h33
            obtain rfl := Option.some.inj h25
            obtain rfl := Option.some.inj h
            exact ⟨[(0, 202)], _, rfl, (by repeat (first | exact trivial | exact rfl | (refine And.intro ?_ ?_))), ⟨rfl, trivial⟩, rfl, rfl, rfl, rfl, rfl⟩
          · refine gok hn ?_
            refine qn668 _ _ ?_
            refine COk.seqQ fun Q673 qn673 qx673 qr673 => ?_
            refine COk.seqQ fun Q674 qn674 qx674 qr674 => ?_
            refine gor hn ?_
            obtain ⟨x47, hx48, h33⟩ := bindM h33
            refine ownM hx48 ?_
            refine ldM (nthO_some hx48).2 ?_
            refine qn674 _ _ ?_
            refine goc hn ?_
            refine bselM h33 (fun hb49 h33 => ?_) (fun hb49 h33 => ?_)
            · refine COk.seqQ fun Q679 qn679 qx679 qr679 => ?_
              refine COk.seqQ fun Q680 qn680 qx680 qr680 => ?_
              refine gor hn ?_
              obtain ⟨x50, hx51, h33⟩ := bindM h33
              refine ownM hx51 ?_
              refine ldM (nthO_some hx51).2 ?_
              refine qn680 _ _ ?_
              refine goc hn ?_
              refine bselM h33 (fun hb52 h33 => ?_) (fun hb52 h33 => ?_)
              · refine COk.seqQ fun Q681 qn681 qx681 qr681 => ?_
                refine COk.sub (ts2 := [(3, .ptr 3 0), (7, .int x35.f0)]) (os2 := [(3, .box [.int (0 : Int), .int (0 : Int)] 85)]) [] ⟨⟨rfl, rfl, trivial⟩, ⟨rfl, trivial⟩, rfl, rfl⟩ (by rw [hn]; rfl) ?_
                refine gor hn ?_
                refine qn681 _ _ ?_
                refine COk.nilrow 2 202 1 3 rfl rfl rfl ?_
                refine got hn ?_
                refine qr679 _ _ ?_
                refine qr673 _ _ ?_
                refine qr665 _ _ ?_
                refine qr664 _ _ ?_
                refine qr624 _ _ ?_
                refine qr623 _ _ ?_
                refine qr622 _ _ ?_
                refine qr390 _ _ ?_
                obtain rfl := Option.some.inj h33
                obtain rfl := Option.some.inj h25
                obtain rfl := Option.some.inj h
                exact ⟨[(0, 202)], _, rfl, (by repeat (first | exact trivial | exact rfl | (refine And.intro ?_ ?_))), ⟨rfl, trivial⟩, rfl, rfl, rfl, rfl, rfl⟩
              · refine gok hn ?_
                refine qn679 _ _ ?_
                refine goe hn ?_
                refine qx673 _ _ _ ?_
                refine qe665 _ _ ?_
                refine qn664 _ _ ?_
                obtain rfl := Option.some.inj h33
                refine EOk.done ?_
                exact ⟨⟨_, rfl⟩, [], trivial, ⟨⟨rfl, rfl, rfl, rfl, trivial⟩, ⟨rfl, rfl, rfl, rfl, trivial⟩, rfl, rfl⟩⟩
            · refine gok hn ?_
              refine qn673 _ _ ?_
              refine COk.seqQ fun Q682 qn682 qx682 qr682 => ?_
              refine gor hn ?_
              obtain ⟨x53, hx54, h33⟩ := bindM h33
              refine ownM hx54 ?_
              refine ldM (nthO_some hx54).2 ?_
              refine Exists.intro (List.map eInt (v19.set x35.f0.toNat x37.f1)) (And.intro (leLs_set (nthO_some hx54).2 (by repeat (first | exact trivial | exact rfl | (refine And.intro ?_ ?_)))) ?_)
              refine qn682 _ _ ?_
              refine COk.seqQ fun Q683 qn683 qx683 qr683 => ?_
              refine gor hn ?_
              obtain ⟨x55, hx56, h33⟩ := bindM h33
              refine idxM hx56 ?_
              refine qn683 _ _ ?_
              refine COk.seqQ fun Q684 qn684 qx684 qr684 => ?_
              refine COk.sub (ts2 := [(1, .ptr 1 0), (3, .ptr 3 0), (4, .own 15), (6, .own 39), (7, .int x35.f0), (8, .int x37.f1), (9, .ptr 9 0)]) (os2 := [(1, .box (eMe a0) 74), (3, .box [.int (0 : Int), .int (0 : Int)] 85), (9, .box (eIns x55) 81), (15, .row 1 (List.map eInt (v19.set x35.f0.toNat x37.f1)) 3), (39, .row 2 (List.map eArr2Int (v20.drop (1 : Int).toNat)) 115)]) [] ⟨⟨rfl, rfl, rfl, rfl, rfl, rfl, rfl, trivial⟩, ⟨rfl, rfl, rfl, rfl, rfl, trivial⟩, rfl, rfl⟩ (by rw [hn]; rfl) ?_
              refine gor hn ?_
              obtain ⟨r57, hr58, h33⟩ := bindM h33
              show CallOk Try.prog _ _ _ _
              refine CallOk.as (code_effect_ok N x55 r57 hr58) (by repeat (first | exact trivial | exact rfl | (refine And.intro ?_ ?_))) trivial rfl ?_
              refine qn684 _ _ ?_
              refine COk.seqQ fun Q685 qn685 qx685 qr685 => ?_
              refine COk.seqQ fun Q686 qn686 qx686 qr686 => ?_
              obtain ⟨o61, h60, h33⟩ := bindM h33
              refine COk.joinR (ι := { s : Bool // o61 = s }) (fun s => [(1, .ptr 1 0), (3, .ptr 3 0), (4, .own 15), (6, .own 39), (7, .int x35.f0), (8, .int x37.f1), (9, .ptr 9 0), (10, .int r57.1), (11, .int r57.2), (91, .bool s.1)]) (fun s => [(1, .box (eMe a0) 74), (3, .box [.int (0 : Int), .int (0 : Int)] 85), (9, .box (eIns x55) 81), (15, .row 1 (List.map eInt (v19.set x35.f0.toNat x37.f1)) 3), (39, .row 2 (List.map eArr2Int (v20.drop (1 : Int).toNat)) 115)]) (fun Q687 qn687 qx687 qr687 => ?_) (by intro s; rw [hn]; rfl) ?_
              · refine gor hn ?_
                refine bselM h60 (fun hb62 h60 => ?_) (fun hb62 h60 => ?_)
                · refine bselT hb62 ?_
                  refine bselT hb62 ?_
                  refine bselT hb62 ?_
                  refine bselT hb62 ?_
                  refine bselT hb62 ?_
                  refine qn687 _ _ ?_
                  obtain rfl := Option.some.inj h60
                  refine EOk.done ?_
                  exact ⟨⟨_, rfl⟩, [], trivial, ⟨⟨rfl, rfl, rfl, rfl, rfl, rfl, rfl, rfl, rfl, rfl, trivial⟩, ⟨rfl, rfl, rfl, rfl, rfl, trivial⟩, rfl, rfl⟩⟩
                · refine bselF hb62 ?_
                  refine bselF hb62 ?_
                  refine bselF hb62 ?_
                  refine bselM h60 (fun hb63 h60 => ?_) (fun hb63 h60 => ?_)
                  · refine bselT hb63 ?_
                    refine bselF hb62 ?_
                    refine bselT hb63 ?_
                    refine bselF hb62 ?_
                    refine qn687 _ _ ?_
                    obtain rfl := Option.some.inj h60
                    refine EOk.done ?_
                    exact ⟨⟨_, rfl⟩, [], trivial, ⟨⟨rfl, rfl, rfl, rfl, rfl, rfl, rfl, rfl, rfl, rfl, trivial⟩, ⟨rfl, rfl, rfl, rfl, rfl, trivial⟩, rfl, rfl⟩⟩
                  · refine bselF hb63 ?_
                    refine bselF hb62 ?_
                    refine bselF hb63 ?_
                    refine bselF hb62 ?_
                    refine qn687 _ _ ?_
                    obtain rfl := Option.some.inj h60
                    refine EOk.done ?_
                    exact ⟨⟨_, rfl⟩, [], trivial, ⟨⟨rfl, rfl, rfl, rfl, rfl, rfl, rfl, rfl, rfl, rfl, trivial⟩, ⟨rfl, rfl, rfl, rfl, rfl, trivial⟩, rfl, rfl⟩⟩
              rintro ⟨v59, hv_⟩
              replace hv_ := hv_.symm
              subst hv_
              refine qn686 _ _ ?_
              refine goc hn ?_
              refine bselM h33 (fun hb64 h33 => ?_) (fun hb64 h33 => ?_)
              · refine COk.seqQ fun Q689 qn689 qx689 qr689 => ?_
                refine gor hn ?_
                refine qn689 _ _ ?_
                refine COk.nilrow 2 202 1 3 rfl rfl rfl ?_
                refine got hn ?_
                refine qr685 _ _ ?_
                refine qr665 _ _ ?_
                refine qr664 _ _ ?_
                refine qr624 _ _ ?_
                refine qr623 _ _ ?_
                refine qr622 _ _ ?_
                refine qr390 _ _ ?_
                obtain rfl := Option.some.inj h33
                obtain rfl := Option.some.inj h25
                obtain rfl := Option.some.inj h
                exact ⟨[(0, 202)], _, rfl, (by repeat (first | exact trivial | exact rfl | (refine And.intro ?_ ?_))), ⟨rfl, trivial⟩, rfl, rfl, rfl, rfl, rfl⟩
              · refine gok hn ?_
                refine qn685 _ _ ?_
                refine COk.seqQ fun Q690 qn690 qx690 qr690 => ?_
                refine gor hn ?_
                refine Or.inr ?_
                refine Or.inr ?_
                refine qn690 _ _ ?_
                refine COk.seqQ fun Q691 qn691 qx691 qr691 => ?_
                refine COk.seqQ fun Q692 qn692 qx692 qr692 => ?_
                refine gor hn ?_
                refine qn692 _ _ ?_
                refine goc hn ?_
                refine bselM h33 (fun hb65 h33 => ?_) (fun hb65 h33 => ?_)
                · refine COk.seqQ fun Q694 qn694 qx694 qr694 => ?_
                  refine COk.sub (ts2 := [(3, .ptr 3 0), (7, .int x35.f0)]) (os2 := [(3, .box [.int (0 : Int), .int (0 : Int)] 85)]) [] ⟨⟨rfl, rfl, trivial⟩, ⟨rfl, trivial⟩, rfl, rfl⟩ (by rw [hn]; rfl) ?_
                  refine gor hn ?_
                  refine qn694 _ _ ?_
                  refine COk.nilrow 2 202 1 3 rfl rfl rfl ?_
                  refine got hn ?_
                  refine qr691 _ _ ?_
                  refine qr665 _ _ ?_
                  refine qr664 _ _ ?_
                  refine qr624 _ _ ?_
                  refine qr623 _ _ ?_
                  refine qr622 _ _ ?_
                  refine qr390 _ _ ?_
                  obtain rfl := Option.some.inj h33
                  obtain rfl := Option.some.inj h25
                  obtain rfl := Option.some.inj h
                  exact ⟨[(0, 202)], _, rfl, (by repeat (first | exact trivial | exact rfl | (refine And.intro ?_ ?_))), ⟨rfl, trivial⟩, rfl, rfl, rfl, rfl, rfl⟩
                · refine gok hn ?_
                  refine qn691 _ _ ?_
                  refine COk.seqQ fun Q695 qn695 qx695 qr695 => ?_
                  refine COk.seqQ fun Q696 qn696 qx696 qr696 => ?_
                  obtain ⟨o68, h67, h33⟩ := bindM h33
                  refine COk.joinR (ι := { s : Bool // o68 = s }) (fun s => [(1, .ptr 1 0), (3, .ptr 3 0), (4, .own 15), (6, .own 39), (7, .int x35.f0), (8, .int (wr (x37.f1 + (wr (r57.2 - r57.1))))), (9, .ptr 9 0), (110, .bool s.1)]) (fun s => [(1, .box (eMe a0) 74), (3, .box [.int (0 : Int), .int (0 : Int)] 85), (9, .box (eIns x55) 81), (15, .row 1 (List.map eInt (v19.set x35.f0.toNat x37.f1)) 3), (39, .row 2 (List.map eArr2Int (v20.drop (1 : Int).toNat)) 115)]) (fun Q697 qn697 qx697 qr697 => ?_) (by intro s; rw [hn]; rfl) ?_
                  · refine COk.sub (ts2 := [(1, .ptr 1 0), (3, .ptr 3 0), (4, .own 15), (6, .own 39), (7, .int x35.f0), (8, .int (wr (x37.f1 + (wr (r57.2 - r57.1))))), (9, .ptr 9 0)]) (os2 := [(1, .box (eMe a0) 74), (3, .box [.int (0 : Int), .int (0 : Int)] 85), (9, .box (eIns x55) 81), (15, .row 1 (List.map eInt (v19.set x35.f0.toNat x37.f1)) 3), (39, .row 2 (List.map eArr2Int (v20.drop (1 : Int).toNat)) 115)]) [] ⟨⟨rfl, rfl, rfl, rfl, rfl, rfl, rfl, trivial⟩, ⟨rfl, rfl, rfl, rfl, rfl, trivial⟩, rfl, rfl⟩ (by rw [hn]; rfl) ?_
                    refine gor hn ?_
                    refine bselM h67 (fun hb69 h67 => ?_) (fun hb69 h67 => ?_)
                    · refine bselT hb69 ?_
                      refine bselT hb69 ?_
                      refine bselT hb69 ?_
                      refine qn697 _ _ ?_
                      obtain rfl := Option.some.inj h67
                      refine EOk.done ?_
                      exact ⟨⟨_, rfl⟩, [], trivial, ⟨⟨rfl, rfl, rfl, rfl, rfl, rfl, rfl, rfl, trivial⟩, ⟨rfl, rfl, rfl, rfl, rfl, trivial⟩, rfl, rfl⟩⟩
                    · refine bselF hb69 ?_
                      refine bselF hb69 ?_
                      refine bselF hb69 ?_
                      refine qn697 _ _ ?_
                      obtain rfl := Option.some.inj h67
                      refine EOk.done ?_
                      exact ⟨⟨_, rfl⟩, [], trivial, ⟨⟨rfl, rfl, rfl, rfl, rfl, rfl, rfl, rfl, trivial⟩, ⟨rfl, rfl, rfl, rfl, rfl, trivial⟩, rfl, rfl⟩⟩
                  rintro ⟨v66, hv_⟩
                  replace hv_ := hv_.symm
                  subst hv_
                  refine qn696 _ _ ?_
                  obtain ⟨o72, h71, h33⟩ := bindM h33
                  refine COk.joinR (ι := { s : (List Arr2Int) // o72 = s }) (fun s => [(1, .ptr 1 0), (3, .ptr 3 0), (4, .own 15), (6, .own 117), (8, .int (wr (x37.f1 + (wr (r57.2 - r57.1))))), (9, .ptr 9 0)]) (fun s => [(1, .box (eMe a0) 74), (3, .box [.int (0 : Int), .int (0 : Int)] 85), (9, .box (eIns x55) 81), (15, .row 1 (List.map eInt (v19.set x35.f0.toNat x37.f1)) 3), (117, .row 2 (List.map eArr2Int s.1) 115)]) (fun Q698 qn698 qx698 qr698 => ?_) (by intro s; rw [hn]; rfl) ?_
                  · refine goc hn ?_
                    refine bselM h71 (fun hb73 h71 => ?_) (fun hb73 h71 => ?_)
                    · refine gor hn ?_
                      refine Or.inr ?_
                      refine Exists.intro (List.map eArr2Int [(⟨(wr (x35.f0 + (1 : Int))), (wr (x37.f1 + (wr (r57.2 - r57.1))))⟩ : Arr2Int)]) (And.intro (by repeat (first | exact trivial | exact rfl | (refine And.intro ?_ ?_))) ?_)
                      obtain ⟨hg74, h71⟩ := guardM h71
                      refine appM (l2 := [(⟨(wr (x35.f0 + (1 : Int))), (wr (x37.f1 + (wr (r57.2 - r57.1))))⟩ : Arr2Int)]) hg74 (leLs_refl _) ?_
                      refine qn698 _ _ ?_
                      obtain rfl := Option.some.inj h71
                      refine EOk.done ?_
                      exact ⟨⟨_, rfl⟩, [], trivial, ⟨⟨rfl, rfl, rfl, rfl, rfl, rfl, trivial⟩, ⟨rfl, rfl, rfl, rfl, rfl, trivial⟩, rfl, rfl⟩⟩
                    · refine gok hn ?_
                      refine qn698 _ _ ?_
                      obtain rfl := Option.some.inj h71
                      refine EOk.done ?_
                      exact ⟨⟨_, rfl⟩, [(117, 39)], trivial, ⟨⟨rfl, rfl, rfl, rfl, rfl, rfl, trivial⟩, ⟨rfl, rfl, rfl, rfl, rfl, trivial⟩, rfl, rfl⟩⟩
                  rintro ⟨v70, hv_⟩
                  replace hv_ := hv_.symm
                  subst hv_
                  refine qn695 _ _ ?_
                  refine COk.seqQ fun Q699 qn699 qx699 qr699 => ?_
                  obtain ⟨o77, h76, h33⟩ := bindM h33
                  refine COk.joinR (ι := { s : Bool // o77 = s }) (fun s => [(1, .ptr 1 0), (3, .ptr 3 0), (4, .own 15), (6, .own 117), (8, .int (wr (x37.f1 + (wr (r57.2 - r57.1))))), (9, .ptr 9 0), (125, .bool s.1)]) (fun s => [(1, .box (eMe a0) 74), (3, .box [.int (0 : Int), .int (0 : Int)] 85), (9, .box (eIns x55) 81), (15, .row 1 (List.map eInt (v19.set x35.f0.toNat x37.f1)) 3), (117, .row 2 (List.map eArr2Int v70) 115)]) (fun Q700 qn700 qx700 qr700 => ?_) (by intro s; rw [hn]; rfl) ?_
                  · refine gor hn ?_
                    refine bselM h76 (fun hb78 h76 => ?_) (fun hb78 h76 => ?_)
                    · refine bselT hb78 ?_
                      refine bselT hb78 ?_
                      refine bselT hb78 ?_
                      refine qn700 _ _ ?_
                      obtain rfl := Option.some.inj h76
                      refine EOk.done ?_
                      exact ⟨⟨_, rfl⟩, [], trivial, ⟨⟨rfl, rfl, rfl, rfl, rfl, rfl, rfl, trivial⟩, ⟨rfl, rfl, rfl, rfl, rfl, trivial⟩, rfl, rfl⟩⟩
                    · refine bselF hb78 ?_
                      refine bselF hb78 ?_
                      refine bselF hb78 ?_
                      refine qn700 _ _ ?_
                      obtain rfl := Option.some.inj h76
                      refine EOk.done ?_
                      exact ⟨⟨_, rfl⟩, [], trivial, ⟨⟨rfl, rfl, rfl, rfl, rfl, rfl, rfl, trivial⟩, ⟨rfl, rfl, rfl, rfl, rfl, trivial⟩, rfl, rfl⟩⟩
                  rintro ⟨v75, hv_⟩
                  replace hv_ := hv_.symm
                  subst hv_
                  refine qn699 _ _ ?_
                  obtain ⟨o81, h80, h33⟩ := bindM h33
                  refine COk.joinR (ι := { s : (List Arr2Int) // o81 = s }) (fun s => [(1, .ptr 1 0), (3, .ptr 3 0), (4, .own 15), (6, .own 132)]) (fun s => [(1, .box (eMe a0) 74), (3, .box [.int (0 : Int), .int (0 : Int)] 85), (15, .row 1 (List.map eInt (v19.set x35.f0.toNat x37.f1)) 3), (132, .row 2 (List.map eArr2Int s.1) 115)]) (fun Q701 qn701 qx701 qr701 => ?_) (by intro s; rw [hn]; rfl) ?_
                  · refine goc hn ?_
                    refine bselM h80 (fun hb82 h80 => ?_) (fun hb82 h80 => ?_)
                    · refine gor hn ?_
                      refine Exists.intro (List.map eArr2Int [(⟨x55.a, (wr (x37.f1 + (wr (r57.2 - r57.1))))⟩ : Arr2Int)]) (And.intro (by repeat (first | exact trivial | exact rfl | (refine And.intro ?_ ?_))) ?_)
                      obtain ⟨hg83, h80⟩ := guardM h80
                      refine appM (l2 := [(⟨x55.a, (wr (x37.f1 + (wr (r57.2 - r57.1))))⟩ : Arr2Int)]) hg83 (leLs_refl _) ?_
                      refine qn701 _ _ ?_
                      obtain rfl := Option.some.inj h80
                      refine EOk.done ?_
                      exact ⟨⟨_, rfl⟩, [], trivial, ⟨⟨rfl, rfl, rfl, rfl, trivial⟩, ⟨rfl, rfl, rfl, rfl, trivial⟩, rfl, rfl⟩⟩
                    · refine gok hn ?_
                      refine qn701 _ _ ?_
                      obtain rfl := Option.some.inj h80
                      refine EOk.done ?_
                      exact ⟨⟨_, rfl⟩, [(132, 117)], trivial, ⟨⟨rfl, rfl, rfl, rfl, trivial⟩, ⟨rfl, rfl, rfl, rfl, trivial⟩, rfl, rfl⟩⟩
                  rintro ⟨v79, hv_⟩
                  replace hv_ := hv_.symm
                  subst hv_
                  refine qn665 _ _ ?_
                  refine qn664 _ _ ?_
                  obtain rfl := Option.some.inj h33
                  refine EOk.done ?_
                  exact ⟨⟨_, rfl⟩, [(39, 132)], trivial, ⟨⟨rfl, rfl, rfl, rfl, trivial⟩, ⟨rfl, rfl, rfl, rfl, trivial⟩, rfl, rfl⟩⟩
        rintro ⟨⟨v31, v32⟩, rfl⟩
        refine qn624 _ _ ?_
        refine EOk.done ?_
        exact ⟨⟨(n28, v31, v32), h25⟩, [(26, 39)], by show n28 < n28 + 1; omega, ⟨⟨rfl, rfl, rfl, rfl, trivial⟩, ⟨rfl, rfl, rfl, rfl, trivial⟩, rfl, rfl⟩⟩
      · refine goe hn ?_
        refine qx625 _ _ _ ?_
        refine qx624 _ _ _ ?_
        refine qe623 _ _ ?_
        refine qn622 _ _ ?_
        obtain rfl := Option.some.inj h25
        refine EOk.done ?_
        exact ⟨⟨_, rfl⟩, [], trivial, ⟨⟨rfl, rfl, trivial⟩, ⟨rfl, rfl, trivial⟩, rfl, rfl⟩⟩
  rintro ⟨v23, rfl⟩
  refine qn390 _ _ ?_
  refine COk.seqQ fun Q702 qn702 qx702 qr702 => ?_
  refine gor hn ?_
  refine qn702 _ _ ?_
  refine got hn ?_
  obtain rfl := Option.some.inj h
  exact ⟨[(0, 15)], _, rfl, (by repeat (first | exact trivial | exact rfl | (refine And.intro ?_ ?_))), ⟨rfl, trivial⟩, rfl, rfl, rfl, rfl, rfl⟩

/- code.Check -/
set_option maxRecDepth 100000 in
set_option maxHeartbeats 1000000 in
theorem code_Check_ok (N : Nat) (a0 : Wd) (a1 : Int) (a2 : Me) (r : TFault) (h : code_Check N a0 a1 a2 = some r) : Spec Try.prog 48 [] [.agg (eWd a0), .int a1, .agg (eMe a2)] (.agg (eTFault r)) [] [] := by
  refine Spec.of tabOk Try.func48 rfl Try.ntmps48 (by kernel_rfl) rfl rfl rfl fun Γ hn => ?_
  unfold code_Check at h
  refine COk.seqQ fun Q121 qn121 qx121 qr121 => ?_
  refine gor hn ?_
  refine qn121 _ _ ?_
  refine COk.seqQ fun Q122 qn122 qx122 qr122 => ?_
  refine COk.blkQ fun Q168 qn168 qe168 qx168 qr168 => ?_
  refine COk.seqQ fun Q169 qn169 qx169 qr169 => ?_
  obtain ⟨o3, h2, h⟩ := bindM h
  refine COk.joinR (ι := { s : Bool // o3 = s }) (fun s => [(1, .int a1), (3, .ptr 3 0), (5, .ptr 5 0), (6, .ptr 6 0), (12, .bool s.1)]) (fun s => [(3, .box (eWd a0) 55), (5, .box (eMe a2) 74), (6, .box [.int (0 : Int), .int (0 : Int)] 85)]) (fun Q170 qn170 qx170 qr170 => ?_) (by intro s; rw [hn]; rfl) ?_
  · refine gor hn ?_
    refine bselM h2 (fun hb4 h2 => ?_) (fun hb4 h2 => ?_)
    · refine bselT hb4 ?_
      refine bselT hb4 ?_
      refine bselT hb4 ?_
      refine bselT hb4 ?_
      refine bselT hb4 ?_
      refine qn170 _ _ ?_
      obtain rfl := Option.some.inj h2
      refine EOk.done ?_
      exact ⟨⟨_, rfl⟩, [], trivial, ⟨⟨rfl, rfl, rfl, rfl, rfl, trivial⟩, ⟨rfl, rfl, rfl, trivial⟩, rfl, rfl⟩⟩
    · refine bselF hb4 ?_
      refine bselF hb4 ?_
      refine bselF hb4 ?_
      refine lenM (fun hl5 => ?_)
      refine bselF hb4 ?_
      refine bselF hb4 ?_
      refine qn170 _ _ ?_
      obtain rfl := Option.some.inj h2
      refine EOk.done ?_
      exact ⟨⟨_, rfl⟩, [], trivial, ⟨⟨rfl, rfl, rfl, rfl, rfl, trivial⟩, ⟨rfl, rfl, rfl, trivial⟩, rfl, rfl⟩⟩
  rintro ⟨v1, hv_⟩
  replace hv_ := hv_.symm
  subst hv_
  refine qn169 _ _ ?_
  refine goc hn ?_
  refine bselM h (fun hb6 h => ?_) (fun hb6 h => ?_)
  · refine COk.seqQ fun Q171 qn171 qx171 qr171 => ?_
    refine gor hn ?_
    refine qn171 _ _ ?_
    refine got hn ?_
    refine qr168 _ _ ?_
    refine qr122 _ _ ?_
    obtain rfl := Option.some.inj h
    exact ⟨[], _, rfl, (by repeat (first | exact trivial | exact rfl | (refine And.intro ?_ ?_))), trivial, rfl, rfl, rfl, rfl, rfl⟩
  · refine COk.seqQ fun Q172 qn172 qx172 qr172 => ?_
    refine gor hn ?_
    obtain ⟨r7, hr8, h⟩ := bindM h
    show CallOk Try.prog _ _ _ _
    refine CallOk.as (class_Name_ok N a2.name r7 hr8) (by repeat (first | exact trivial | exact rfl | (refine And.intro ?_ ?_))) trivial rfl ?_
    refine qn172 _ _ ?_
    refine goc hn ?_
    refine bselM h (fun hb9 h => ?_) (fun hb9 h => ?_)
    · refine COk.seqQ fun Q173 qn173 qx173 qr173 => ?_
      refine gor hn ?_
      refine qn173 _ _ ?_
      refine got hn ?_
      refine qr168 _ _ ?_
      refine qr122 _ _ ?_
      obtain rfl := Option.some.inj h
      exact ⟨[], _, rfl, (by repeat (first | exact trivial | exact rfl | (refine And.intro ?_ ?_))), trivial, rfl, rfl, rfl, rfl, rfl⟩
    · refine COk.seqQ fun Q174 qn174 qx174 qr174 => ?_
      obtain ⟨o12, h11, h⟩ := bindM h
      refine COk.joinR (ι := { s : Bool // o12 = s }) (fun s => [(1, .int a1), (3, .ptr 3 0), (5, .ptr 5 0), (6, .ptr 6 0), (29, .bool s.1)]) (fun s => [(3, .box (eWd a0) 55), (5, .box (eMe a2) 74), (6, .box [.int (0 : Int), .int (0 : Int)] 85)]) (fun Q175 qn175 qx175 qr175 => ?_) (by intro s; rw [hn]; rfl) ?_
      · refine gor hn ?_
        refine bselM h11 (fun hb13 h11 => ?_) (fun hb13 h11 => ?_)
        · refine bselT hb13 ?_
          refine bselT hb13 ?_
          refine bselT hb13 ?_
          refine qn175 _ _ ?_
          obtain rfl := Option.some.inj h11
          refine EOk.done ?_
          exact ⟨⟨_, rfl⟩, [], trivial, ⟨⟨rfl, rfl, rfl, rfl, rfl, trivial⟩, ⟨rfl, rfl, rfl, trivial⟩, rfl, rfl⟩⟩
        · refine bselF hb13 ?_
          refine bselF hb13 ?_
          refine bselF hb13 ?_
          refine bselM h11 (fun hb14 h11 => ?_) (fun hb14 h11 => ?_)
          · refine bselT hb14 ?_
            refine bselT hb14 ?_
            refine bselT hb14 ?_
            refine qn175 _ _ ?_
            obtain rfl := Option.some.inj h11
            refine EOk.done ?_
            exact ⟨⟨_, rfl⟩, [], trivial, ⟨⟨rfl, rfl, rfl, rfl, rfl, trivial⟩, ⟨rfl, rfl, rfl, trivial⟩, rfl, rfl⟩⟩
          · refine bselF hb14 ?_
            refine bselF hb14 ?_
            refine bselF hb14 ?_
            refine bselM h11 (fun hb15 h11 => ?_) (fun hb15 h11 => ?_)
            · refine bselT hb15 ?_
              refine bselT hb15 ?_
              refine bselT hb15 ?_
              refine qn175 _ _ ?_
              obtain rfl := Option.some.inj h11
              refine EOk.done ?_
              exact ⟨⟨_, rfl⟩, [], trivial, ⟨⟨rfl, rfl, rfl, rfl, rfl, trivial⟩, ⟨rfl, rfl, rfl, trivial⟩, rfl, rfl⟩⟩
            · refine bselF hb15 ?_
              refine bselF hb15 ?_
              refine bselF hb15 ?_
              refine qn175 _ _ ?_
              obtain rfl := Option.some.inj h11
              refine EOk.done ?_
              exact ⟨⟨_, rfl⟩, [], trivial, ⟨⟨rfl, rfl, rfl, rfl, rfl, trivial⟩, ⟨rfl, rfl, rfl, trivial⟩, rfl, rfl⟩⟩
      rintro ⟨v10, hv_⟩
      replace hv_ := hv_.symm
      subst hv_
      refine qn174 _ _ ?_
      refine goc hn ?_
      refine bselM h (fun hb16 h => ?_) (fun hb16 h => ?_)
      · refine COk.seqQ fun Q176 qn176 qx176 qr176 => ?_
        refine gor hn ?_
        refine qn176 _ _ ?_
        refine got hn ?_
        refine qr168 _ _ ?_
        refine qr122 _ _ ?_
        obtain rfl := Option.some.inj h
        exact ⟨[], _, rfl, (by repeat (first | exact trivial | exact rfl | (refine And.intro ?_ ?_))), trivial, rfl, rfl, rfl, rfl, rfl⟩
      · refine COk.seqQ fun Q177 qn177 qx177 qr177 => ?_
        refine gor hn ?_
        refine qn177 _ _ ?_
        refine goc hn ?_
        refine bselM h (fun hb17 h => ?_) (fun hb17 h => ?_)
        · refine COk.seqQ fun Q178 qn178 qx178 qr178 => ?_
          refine gor hn ?_
          refine qn178 _ _ ?_
          refine got hn ?_
          refine qr168 _ _ ?_
          refine qr122 _ _ ?_
          obtain rfl := Option.some.inj h
          exact ⟨[], _, rfl, (by repeat (first | exact trivial | exact rfl | (refine And.intro ?_ ?_))), trivial, rfl, rfl, rfl, rfl, rfl⟩
        · refine COk.seqQ fun Q179 qn179 qx179 qr179 => ?_
          obtain ⟨o20, h19, h⟩ := bindM h
          refine COk.joinR (ι := { s : Bool // o20 = s }) (fun s => [(1, .int a1), (3, .ptr 3 0), (5, .ptr 5 0), (6, .ptr 6 0), (54, .bool s.1)]) (fun s => [(3, .box (eWd a0) 55), (5, .box (eMe a2) 74), (6, .box [.int (0 : Int), .int (0 : Int)] 85)]) (fun Q180 qn180 qx180 qr180 => ?_) (by intro s; rw [hn]; rfl) ?_
          · refine gor hn ?_
            refine lenM (fun hl21 => ?_)
            refine bselM h19 (fun hb22 h19 => ?_) (fun hb22 h19 => ?_)
            · refine bselT hb22 ?_
              refine bselT hb22 ?_
              refine bselT hb22 ?_
              refine bselT hb22 ?_
              refine qn180 _ _ ?_
              obtain rfl := Option.some.inj h19
              refine EOk.done ?_
              exact ⟨⟨_, rfl⟩, [], trivial, ⟨⟨rfl, rfl, rfl, rfl, rfl, trivial⟩, ⟨rfl, rfl, rfl, trivial⟩, rfl, rfl⟩⟩
            · refine bselF hb22 ?_
              refine bselF hb22 ?_
              refine lenM (fun hl23 => ?_)
              refine bselF hb22 ?_
              refine bselF hb22 ?_
              refine qn180 _ _ ?_
              obtain rfl := Option.some.inj h19
              refine EOk.done ?_
              exact ⟨⟨_, rfl⟩, [], trivial, ⟨⟨rfl, rfl, rfl, rfl, rfl, trivial⟩, ⟨rfl, rfl, rfl, trivial⟩, rfl, rfl⟩⟩
          rintro ⟨v18, hv_⟩
          replace hv_ := hv_.symm
          subst hv_
          refine qn179 _ _ ?_
          refine goc hn ?_
          refine bselM h (fun hb24 h => ?_) (fun hb24 h => ?_)
          · refine COk.seqQ fun Q181 qn181 qx181 qr181 => ?_
            refine gor hn ?_
            refine qn181 _ _ ?_
            refine got hn ?_
            refine qr168 _ _ ?_
            refine qr122 _ _ ?_
            obtain rfl := Option.some.inj h
            exact ⟨[], _, rfl, (by repeat (first | exact trivial | exact rfl | (refine And.intro ?_ ?_))), trivial, rfl, rfl, rfl, rfl, rfl⟩
          · refine gok hn ?_
            refine qn168 _ _ ?_
            refine qn122 _ _ ?_
            refine COk.seqQ fun Q182 qn182 qx182 qr182 => ?_
            refine COk.seqQ fun Q183 qn183 qx183 qr183 => ?_
            refine gor hn ?_
            refine lenM (fun hl25 => ?_)
            refine qn183 _ _ ?_
            refine COk.gh (Gh.fzBox 3 3 rfl rfl rfl) (fun _ => ?_)
            refine COk.gh (Gh.fzBox 5 5 rfl rfl rfl) (fun _ => ?_)
            obtain ⟨o27, h28, h⟩ := bindM h
            refine COk.joinR (ι := { s : Unit // o27 = Ctl.next s }) (fun s => [(5, .fp (eMe a2)), (6, .ptr 6 0)]) (fun s => [(6, .box [.int (0 : Int), .int (0 : Int)] 85)]) (fun Q220 qn220 qx220 qr220 => ?_) (by intro s; rw [hn]; rfl) ?_
            · refine COk.blkQ fun Q221 qn221 qe221 qx221 qr221 => ?_
              refine COk.loopQ (ι := { q : ((List Ins) × Nat) // q.1 = a2.code.drop q.2 ∧ code_Check_l1 N a0 a1 a2 q.1 q.2 = some o27 }) (fun q => [(1, .int a1), (3, .fp (eWd a0)), (5, .fp (eMe a2)), (6, .ptr 6 0), (67, .sl 5 (List.map eIns a2.code)), (68, .int (a2.code.length : Int)), (69, .int (q.1.2 : Int))]) (fun q => [(6, .box [.int (0 : Int), .int (0 : Int)] 85)]) (fun q => q.1.1.length) ⟨(a2.code, 0), rfl, h28⟩ [] ⟨⟨rfl, (by repeat (first | exact trivial | exact rfl | (refine And.intro ?_ ?_))), (by repeat (first | exact trivial | exact rfl | (refine And.intro ?_ ?_))), rfl, (by repeat (first | exact trivial | exact rfl | (refine And.intro ?_ ?_))), rfl, rfl, trivial⟩, ⟨rfl, trivial⟩, rfl, rfl⟩ (by intro q; rw [hn]; rfl) ?_
              rintro ⟨⟨rest_, k26⟩, hd30, h28⟩ Q222 qn222 qx222 qr222
              replace hd30 : rest_ = a2.code.drop k26 := hd30
              rcases rest_ with _ | ⟨x32, rest29⟩
              · have hlt34 := restNil hd30
                replace h28 := (code_Check_l1.eq_1 _ _ _ _ _).symm.trans h28
                refine COk.seqQ fun Q223 qn223 qx223 qr223 => ?_
                refine gor hn ?_
                refine qn223 _ _ ?_
                refine COk.seqQ fun Q224 qn224 qx224 qr224 => ?_
                refine goc hn ?_
                refine bselF hlt34 ?_
                refine goe hn ?_
                refine qx224 _ _ _ ?_
                refine qx222 _ _ _ ?_
                refine qe221 _ _ ?_
                refine qn220 _ _ ?_
                obtain rfl := Option.some.inj h28
                refine EOk.done ?_
                exact ⟨⟨_, rfl⟩, [], trivial, ⟨⟨(by repeat (first | exact trivial | exact rfl | (refine And.intro ?_ ?_))), rfl, trivial⟩, ⟨rfl, trivial⟩, rfl, rfl⟩⟩
              · obtain ⟨hx33, hd2, hlt34⟩ := restCons hd30
                replace h28 := (code_Check_l1.eq_2 _ _ _ _ _ _ _).symm.trans h28
                refine COk.seqQ fun Q225 qn225 qx225 qr225 => ?_
                refine gor hn ?_
                refine qn225 _ _ ?_
                refine COk.seqQ fun Q226 qn226 qx226 qr226 => ?_
                refine goc hn ?_
                refine bselT hlt34 ?_
                refine gok hn ?_
                refine qn226 _ _ ?_
                refine COk.seqQ fun Q227 qn227 qx227 qr227 => ?_
                refine COk.blkQ fun Q234 qn234 qe234 qx234 qr234 => ?_
                refine COk.seqQ fun Q235 qn235 qx235 qr235 => ?_
                refine gor hn ?_
                refine idxK hx33 ?_
                refine qn235 _ _ ?_
                refine COk.seqQ fun Q236 qn236 qx236 qr236 => ?_
                refine gor hn ?_
                obtain ⟨r35, hr36, h28⟩ := bindM h28
                show CallOk Try.prog _ _ _ _
                refine CallOk.as (code_numbers_ok N a0 a1 a2 x32 r35 hr36) (by repeat (first | exact trivial | exact rfl | (refine And.intro ?_ ?_))) trivial rfl ?_
                refine qn236 _ _ ?_
                refine COk.seqQ fun Q237 qn237 qx237 qr237 => ?_
                refine COk.sub (ts2 := [(1, .int a1), (3, .fp (eWd a0)), (5, .fp (eMe a2)), (6, .ptr 6 0), (7, .int (k26 : Int)), (9, .int r35), (67, .sl 5 (List.map eIns a2.code)), (68, .int (a2.code.length : Int)), (69, .int (k26 : Int))]) (os2 := [(6, .box [.int (0 : Int), .int (0 : Int)] 85)]) [] ⟨⟨rfl, (by repeat (first | exact trivial | exact rfl | (refine And.intro ?_ ?_))), (by repeat (first | exact trivial | exact rfl | (refine And.intro ?_ ?_))), rfl, rfl, rfl, (by repeat (first | exact trivial | exact rfl | (refine And.intro ?_ ?_))), rfl, rfl, trivial⟩, ⟨rfl, trivial⟩, rfl, rfl⟩ (by rw [hn]; rfl) ?_
                refine gor hn ?_
                refine qn237 _ _ ?_
                refine goc hn ?_
                refine bselM h28 (fun hb37 h28 => ?_) (fun hb37 h28 => ?_)
                · refine COk.seqQ fun Q238 qn238 qx238 qr238 => ?_
                  refine gor hn ?_
                  refine qn238 _ _ ?_
                  refine got hn ?_
                  refine qr234 _ _ ?_
                  refine qr227 _ _ ?_
                  refine qr222 _ _ ?_
                  refine qr221 _ _ ?_
                  refine qr220 _ _ ?_
                  refine qr182 _ _ ?_
                  obtain rfl := Option.some.inj h28
                  obtain rfl := Option.some.inj h
                  exact ⟨[], _, rfl, (by repeat (first | exact trivial | exact rfl | (refine And.intro ?_ ?_))), trivial, rfl, rfl, rfl, rfl, rfl⟩
                · refine gok hn ?_
                  refine qn234 _ _ ?_
                  refine qn227 _ _ ?_
                  refine gor hn ?_
                  refine Or.inl (And.intro (inrK hx33 hl25) ?_)
                  refine qn222 _ _ ?_
                  refine EOk.done ?_
                  exact ⟨⟨(rest29, k26 + 1), hd2, h28⟩, [], by show rest29.length < rest29.length + 1; omega, ⟨⟨rfl, (by repeat (first | exact trivial | exact rfl | (refine And.intro ?_ ?_))), (by repeat (first | exact trivial | exact rfl | (refine And.intro ?_ ?_))), rfl, (by repeat (first | exact trivial | exact rfl | (refine And.intro ?_ ?_))), rfl, rfl, trivial⟩, ⟨rfl, trivial⟩, rfl, rfl⟩⟩
            rintro ⟨⟨⟩, rfl⟩
            refine qn182 _ _ ?_
            refine COk.seqQ fun Q239 qn239 qx239 qr239 => ?_
            refine gor hn ?_
            obtain ⟨r38, hr39, h⟩ := bindM h
            show CallOk Try.prog _ _ _ _
            refine CallOk.as ((code_Heights_ok N a2 r38 hr39).sw 0 85) (by repeat (first | exact trivial | exact rfl | (refine And.intro ?_ ?_))) trivial rfl ?_
            refine qn239 _ _ ?_
            refine COk.seqQ fun Q240 qn240 qx240 qr240 => ?_
            refine gor hn ?_
            refine qn240 _ _ ?_
            refine got hn ?_
            obtain rfl := Option.some.inj h
            exact ⟨[], _, rfl, (by repeat (first | exact trivial | exact rfl | (refine And.intro ?_ ?_))), trivial, rfl, rfl, rfl, rfl, rfl⟩

/- qclaw3.alive -/
set_option maxRecDepth 100000 in
set_option maxHeartbeats 1000000 in
theorem qclaw3_alive_ok (N : Nat) (r : Bool) (h : qclaw3_alive N  = some r) : Spec Try.prog 52 [] [] (.bool r) [] [] := by
  refine Spec.of tabOk Try.func52 rfl Try.ntmps52 (by kernel_rfl) rfl rfl rfl fun Γ hn => ?_
  unfold qclaw3_alive at h
  refine COk.seqQ fun Q6 qn6 qx6 qr6 => ?_
  refine gor hn ?_
  refine qn6 _ _ ?_
  refine COk.seqQ fun Q7 qn7 qx7 qr7 => ?_
  refine gor hn ?_
  refine Exists.intro (List.map eIns [(⟨(5 : Int), (5 : Int), (0 : Int), (0 : Int), ByteArray.empty⟩ : Ins), (⟨(17 : Int), (0 : Int), (0 : Int), (0 : Int), ByteArray.empty⟩ : Ins)]) (And.intro (by repeat (first | exact trivial | exact rfl | (refine And.intro ?_ ?_))) ?_)
  refine qn7 _ _ ?_
  refine COk.seqQ fun Q8 qn8 qx8 qr8 => ?_
  refine COk.fzAll 6 rfl ?_
  refine COk.sub (ts2 := [(1, .ptr 1 0)]) (os2 := [(1, .box [.str (⟨#[109]⟩ : ByteArray), .int (0 : Int), .int (0 : Int), .int (0 : Int), .sl 5 (List.map eIns [(⟨(5 : Int), (5 : Int), (0 : Int), (0 : Int), ByteArray.empty⟩ : Ins), (⟨(17 : Int), (0 : Int), (0 : Int), (0 : Int), ByteArray.empty⟩ : Ins)])] 74)]) [] ⟨⟨rfl, trivial⟩, ⟨rfl, trivial⟩, rfl, rfl⟩ (by rw [hn]; rfl) ?_
  refine gor hn ?_
  obtain ⟨r1, hr2, h⟩ := bindM h
  show CallOk Try.prog _ _ _ _
  refine CallOk.as ((code_Heights_ok N (⟨(⟨#[109]⟩ : ByteArray), (0 : Int), (0 : Int), (0 : Int), [(⟨(5 : Int), (5 : Int), (0 : Int), (0 : Int), ByteArray.empty⟩ : Ins), (⟨(17 : Int), (0 : Int), (0 : Int), (0 : Int), ByteArray.empty⟩ : Ins)]⟩ : Me) r1 hr2).sw 0 10) (by repeat (first | exact trivial | exact rfl | (refine And.intro ?_ ?_))) trivial rfl ?_
  refine qn8 _ _ ?_
  refine COk.seqQ fun Q9 qn9 qx9 qr9 => ?_
  obtain ⟨o5, h4, h⟩ := bindM h
  refine COk.joinR (ι := { s : Bool // o5 = s }) (fun s => [(0, .bool s.1)]) (fun s => []) (fun Q10 qn10 qx10 qr10 => ?_) (by intro s; rw [hn]; rfl) ?_
  · refine COk.sub (ts2 := [(1, .ptr 1 0), (2, .own 10), (3, .ptr 3 0)]) (os2 := [(1, .box [.str (⟨#[109]⟩ : ByteArray), .int (0 : Int), .int (0 : Int), .int (0 : Int), .sl 5 (List.map eIns [(⟨(5 : Int), (5 : Int), (0 : Int), (0 : Int), ByteArray.empty⟩ : Ins), (⟨(17 : Int), (0 : Int), (0 : Int), (0 : Int), ByteArray.empty⟩ : Ins)])] 74), (3, .box (eTFault r1.2) 85), (10, .row 1 (List.map eInt r1.1) 3)]) [] ⟨⟨rfl, rfl, rfl, trivial⟩, ⟨rfl, rfl, rfl, trivial⟩, rfl, rfl⟩ (by rw [hn]; rfl) ?_
    refine god hn (by kernel_rfl) ?_
    refine bselM h4 (fun hb6 h4 => ?_) (fun hb6 h4 => ?_)
    · refine bselT hb6 ?_
      refine lenM (fun hl7 => ?_)
      refine bselT hb6 ?_
      refine bselT hb6 ?_
      refine bselM h4 (fun hb8 h4 => ?_) (fun hb8 h4 => ?_)
      · refine bselT hb8 ?_
        obtain ⟨x9, hx10, h4⟩ := bindM h4
        refine ownM hx10 ?_
        refine bselT hb8 ?_
        refine ldM (nthO_some hx10).2 ?_
        refine bselT hb8 ?_
        refine bselT hb8 ?_
        refine bselM h4 (fun hb11 h4 => ?_) (fun hb11 h4 => ?_)
        · obtain ⟨r12, hr13, h4⟩ := bindM h4
          show CallOk Try.prog _ _ _ _
          refine CallOk.as (qcref1_New_ok N  r12 hr13) (by repeat (first | exact trivial | exact rfl | (refine And.intro ?_ ?_))) trivial rfl ?_
          refine bselT hb11 ?_
          refine bselT hb11 ?_
          obtain ⟨r14, hr15, h4⟩ := bindM h4
          show CallOk Try.prog _ _ _ _
          refine CallOk.as (code_Check_ok N r12 (0 : Int) (⟨(⟨#[109]⟩ : ByteArray), (0 : Int), (0 : Int), (0 : Int), [(⟨(5 : Int), (5 : Int), (0 : Int), (0 : Int), ByteArray.empty⟩ : Ins), (⟨(17 : Int), (0 : Int), (0 : Int), (0 : Int), ByteArray.empty⟩ : Ins)]⟩ : Me) r14 hr15) (by repeat (first | exact trivial | exact rfl | (refine And.intro ?_ ?_))) trivial rfl ?_
          refine bselT hb11 ?_
          refine bselT hb11 ?_
          refine bselT hb11 ?_
          refine bselM h4 (fun hb16 h4 => ?_) (fun hb16 h4 => ?_)
          · obtain ⟨r17, hr18, h4⟩ := bindM h4
            show CallOk Try.prog _ _ _ _
            refine CallOk.as (qcref1_New_ok N  r17 hr18) (by repeat (first | exact trivial | exact rfl | (refine And.intro ?_ ?_))) trivial rfl ?_
            refine bselT hb16 ?_
            refine bselT hb16 ?_
            refine bselT hb16 ?_
            obtain ⟨hg19, h4⟩ := guardM h4
            refine takeM hg19 rfl rfl ?_
            refine bselT hb16 ?_
            refine bselT hb16 ?_
            obtain ⟨r20, hr21, h4⟩ := bindM h4
            show CallOk Try.prog _ _ _ _
            refine CallOk.as (code_Check_ok N r17 (0 : Int) (⟨(⟨#[109]⟩ : ByteArray), (0 : Int), (0 : Int), (0 : Int), ([(⟨(5 : Int), (5 : Int), (0 : Int), (0 : Int), ByteArray.empty⟩ : Ins), (⟨(17 : Int), (0 : Int), (0 : Int), (0 : Int), ByteArray.empty⟩ : Ins)].take (1 : Int).toNat)⟩ : Me) r20 hr21) (by repeat (first | exact trivial | exact rfl | (refine And.intro ?_ ?_))) trivial rfl ?_
            refine bselT hb16 ?_
            refine bselT hb16 ?_
            refine bselT hb16 ?_
            refine qn10 _ _ ?_
            obtain rfl := Option.some.inj h4
            refine EOk.done ?_
            exact ⟨⟨_, rfl⟩, [], trivial, ⟨⟨rfl, trivial⟩, trivial, rfl, rfl⟩⟩
          · refine bselF hb16 ?_
            refine bselF hb16 ?_
            refine bselF hb16 ?_
            refine bselF hb16 ?_
            refine bselF hb16 ?_
            refine bselF hb16 ?_
            refine bselF hb16 ?_
            refine bselF hb16 ?_
            refine qn10 _ _ ?_
            obtain rfl := Option.some.inj h4
            refine EOk.done ?_
            exact ⟨⟨_, rfl⟩, [], trivial, ⟨⟨rfl, trivial⟩, trivial, rfl, rfl⟩⟩
        · refine bselF hb11 ?_
          refine bselF hb11 ?_
          refine bselF hb11 ?_
          refine bselF hb11 ?_
          refine bselF hb11 ?_
          refine qn10 _ _ ?_
          obtain rfl := Option.some.inj h4
          refine EOk.done ?_
          exact ⟨⟨_, rfl⟩, [], trivial, ⟨⟨rfl, trivial⟩, trivial, rfl, rfl⟩⟩
      · refine bselF hb8 ?_
        refine bselF hb8 ?_
        refine bselF hb8 ?_
        refine bselF hb8 ?_
        refine qn10 _ _ ?_
        obtain rfl := Option.some.inj h4
        refine EOk.done ?_
        exact ⟨⟨_, rfl⟩, [], trivial, ⟨⟨rfl, trivial⟩, trivial, rfl, rfl⟩⟩
    · refine bselF hb6 ?_
      refine bselF hb6 ?_
      refine bselF hb6 ?_
      refine qn10 _ _ ?_
      obtain rfl := Option.some.inj h4
      refine EOk.done ?_
      exact ⟨⟨_, rfl⟩, [], trivial, ⟨⟨rfl, trivial⟩, trivial, rfl, rfl⟩⟩
  rintro ⟨v3, hv_⟩
  replace hv_ := hv_.symm
  subst hv_
  refine qn9 _ _ ?_
  refine got hn ?_
  obtain rfl := Option.some.inj h
  exact ⟨[], _, rfl, (by repeat (first | exact trivial | exact rfl | (refine And.intro ?_ ?_))), trivial, rfl, rfl, rfl, rfl, rfl⟩

/- qclaw3.CodeWays -/
set_option maxRecDepth 100000 in
set_option maxHeartbeats 1000000 in
theorem qclaw3_CodeWays_ok (N : Nat) (a0 : Wd) (a1 : Int) (a2 : Me) (r : Bool) (h : qclaw3_CodeWays N a0 a1 a2 = some r) : Spec Try.prog 11 [] [.agg (eWd a0), .int a1, .agg (eMe a2)] (.bool r) [] [] := by
  refine Spec.of tabOk Try.func11 rfl Try.ntmps11 (by kernel_rfl) rfl rfl rfl fun Γ hn => ?_
  unfold qclaw3_CodeWays at h
  refine COk.seqQ fun Q365 qn365 qx365 qr365 => ?_
  refine gor hn ?_
  refine qn365 _ _ ?_
  refine COk.seqQ fun Q366 qn366 qx366 qr366 => ?_
  refine COk.seqQ fun Q367 qn367 qx367 qr367 => ?_
  refine gor hn ?_
  obtain ⟨r1, hr2, h⟩ := bindM h
  show CallOk Try.prog _ _ _ _
  refine CallOk.as (qclaw3_alive_ok N  r1 hr2) (by repeat (first | exact trivial | exact rfl | (refine And.intro ?_ ?_))) trivial rfl ?_
  refine qn367 _ _ ?_
  refine goc hn ?_
  refine bselM h (fun hb3 h => ?_) (fun hb3 h => ?_)
  · refine COk.seqQ fun Q369 qn369 qx369 qr369 => ?_
    refine gor hn ?_
    refine qn369 _ _ ?_
    refine got hn ?_
    refine qr366 _ _ ?_
    obtain rfl := Option.some.inj h
    exact ⟨[], _, rfl, (by repeat (first | exact trivial | exact rfl | (refine And.intro ?_ ?_))), trivial, rfl, rfl, rfl, rfl, rfl⟩
  · refine gok hn ?_
    refine qn366 _ _ ?_
    refine COk.seqQ fun Q370 qn370 qx370 qr370 => ?_
    refine COk.seqQ fun Q371 qn371 qx371 qr371 => ?_
    refine gor hn ?_
    obtain ⟨r4, hr5, h⟩ := bindM h
    show CallOk Try.prog _ _ _ _
    refine CallOk.as (code_Check_ok N a0 a1 a2 r4 hr5) (by repeat (first | exact trivial | exact rfl | (refine And.intro ?_ ?_))) trivial rfl ?_
    refine qn371 _ _ ?_
    refine goc hn ?_
    refine bselM h (fun hb6 h => ?_) (fun hb6 h => ?_)
    · refine COk.seqQ fun Q373 qn373 qx373 qr373 => ?_
      refine gor hn ?_
      refine qn373 _ _ ?_
      refine got hn ?_
      refine qr370 _ _ ?_
      obtain rfl := Option.some.inj h
      exact ⟨[], _, rfl, (by repeat (first | exact trivial | exact rfl | (refine And.intro ?_ ?_))), trivial, rfl, rfl, rfl, rfl, rfl⟩
    · refine gok hn ?_
      refine qn370 _ _ ?_
      refine COk.seqQ fun Q374 qn374 qx374 qr374 => ?_
      refine gor hn ?_
      obtain ⟨r7, hr8, h⟩ := bindM h
      show CallOk Try.prog _ _ _ _
      refine CallOk.as ((code_Heights_ok N a2 r7 hr8).sw 0 26) (by repeat (first | exact trivial | exact rfl | (refine And.intro ?_ ?_))) trivial rfl ?_
      refine qn374 _ _ ?_
      refine COk.seqQ fun Q375 qn375 qx375 qr375 => ?_
      refine COk.seqQ fun Q376 qn376 qx376 qr376 => ?_
      obtain ⟨o11, h10, h⟩ := bindM h
      refine COk.joinR (ι := { s : Bool // o11 = s }) (fun s => [(5, .ptr 5 0), (7, .own 26), (45, .bool s.1)]) (fun s => [(5, .box (eMe a2) 74), (26, .row 1 (List.map eInt r7.1) 3)]) (fun Q377 qn377 qx377 qr377 => ?_) (by intro s; rw [hn]; rfl) ?_
      · refine COk.sub (ts2 := [(5, .ptr 5 0), (7, .own 26), (8, .ptr 8 0)]) (os2 := [(5, .box (eMe a2) 74), (8, .box (eTFault r7.2) 85), (26, .row 1 (List.map eInt r7.1) 3)]) [] ⟨⟨rfl, rfl, rfl, trivial⟩, ⟨rfl, rfl, rfl, trivial⟩, rfl, rfl⟩ (by rw [hn]; rfl) ?_
        refine gor hn ?_
        refine bselM h10 (fun hb12 h10 => ?_) (fun hb12 h10 => ?_)
        · refine bselT hb12 ?_
          refine bselT hb12 ?_
          refine bselT hb12 ?_
          refine bselT hb12 ?_
          refine bselT hb12 ?_
          refine bselT hb12 ?_
          refine qn377 _ _ ?_
          obtain rfl := Option.some.inj h10
          refine EOk.done ?_
          exact ⟨⟨_, rfl⟩, [], trivial, ⟨⟨rfl, rfl, rfl, trivial⟩, ⟨rfl, rfl, trivial⟩, rfl, rfl⟩⟩
        · refine bselF hb12 ?_
          refine lenM (fun hl13 => ?_)
          refine bselF hb12 ?_
          refine bselF hb12 ?_
          refine bselF hb12 ?_
          refine lenM (fun hl14 => ?_)
          refine bselF hb12 ?_
          refine bselF hb12 ?_
          refine bselM h10 (fun hb15 h10 => ?_) (fun hb15 h10 => ?_)
          · refine bselT hb15 ?_
            refine bselT hb15 ?_
            refine bselT hb15 ?_
            refine bselT hb15 ?_
            refine qn377 _ _ ?_
            obtain rfl := Option.some.inj h10
            refine EOk.done ?_
            exact ⟨⟨_, rfl⟩, [], trivial, ⟨⟨rfl, rfl, rfl, trivial⟩, ⟨rfl, rfl, trivial⟩, rfl, rfl⟩⟩
          · refine bselF hb15 ?_
            obtain ⟨x16, hx17, h10⟩ := bindM h10
            refine ownM hx17 ?_
            refine bselF hb15 ?_
            refine ldM (nthO_some hx17).2 ?_
            refine bselF hb15 ?_
            refine bselF hb15 ?_
            refine qn377 _ _ ?_
            obtain rfl := Option.some.inj h10
            refine EOk.done ?_
            exact ⟨⟨_, rfl⟩, [], trivial, ⟨⟨rfl, rfl, rfl, trivial⟩, ⟨rfl, rfl, trivial⟩, rfl, rfl⟩⟩
      rintro ⟨v9, hv_⟩
      replace hv_ := hv_.symm
      subst hv_
      refine qn376 _ _ ?_
      refine goc hn ?_
      refine bselM h (fun hb18 h => ?_) (fun hb18 h => ?_)
      · refine COk.seqQ fun Q379 qn379 qx379 qr379 => ?_
        refine gor hn ?_
        refine qn379 _ _ ?_
        refine got hn ?_
        refine qr375 _ _ ?_
        obtain rfl := Option.some.inj h
        exact ⟨[], _, rfl, (by repeat (first | exact trivial | exact rfl | (refine And.intro ?_ ?_))), trivial, rfl, rfl, rfl, rfl, rfl⟩
      · refine gok hn ?_
        refine qn375 _ _ ?_
        refine COk.seqQ fun Q380 qn380 qx380 qr380 => ?_
        refine COk.seqQ fun Q381 qn381 qx381 qr381 => ?_
        refine gor hn ?_
        refine lenM (fun hl19 => ?_)
        refine qn381 _ _ ?_
        obtain ⟨o21, h22, h⟩ := bindM h
        refine COk.joinR (ι := { s : Unit // o21 = Ctl.next s }) (fun s => []) (fun s => []) (fun Q615 qn615 qx615 qr615 => ?_) (by intro s; rw [hn]; rfl) ?_
        · refine COk.blkQ fun Q616 qn616 qe616 qx616 qr616 => ?_
          refine COk.loopQ (ι := { q : ((List Ins) × Nat) // q.1 = a2.code.drop q.2 ∧ qclaw3_CodeWays_l1 N r7 q.1 q.2 = some o21 }) (fun q => [(7, .own 26), (47, .sl 5 (List.map eIns a2.code)), (48, .int (a2.code.length : Int)), (49, .int (q.1.2 : Int))]) (fun q => [(26, .row 1 (List.map eInt r7.1) 3)]) (fun q => q.1.1.length) ⟨(a2.code, 0), rfl, h22⟩ [] ⟨⟨rfl, (by repeat (first | exact trivial | exact rfl | (refine And.intro ?_ ?_))), rfl, rfl, trivial⟩, ⟨rfl, trivial⟩, rfl, rfl⟩ (by intro q; rw [hn]; rfl) ?_
          rintro ⟨⟨rest_, k20⟩, hd24, h22⟩ Q617 qn617 qx617 qr617
          replace hd24 : rest_ = a2.code.drop k20 := hd24
          rcases rest_ with _ | ⟨x26, rest23⟩
          · have hlt28 := restNil hd24
            replace h22 := (qclaw3_CodeWays_l1.eq_1 _ _ _).symm.trans h22
            refine COk.seqQ fun Q618 qn618 qx618 qr618 => ?_
            refine gor hn ?_
            refine qn618 _ _ ?_
            refine COk.seqQ fun Q619 qn619 qx619 qr619 => ?_
            refine goc hn ?_
            refine bselF hlt28 ?_
            refine goe hn ?_
            refine qx619 _ _ _ ?_
            refine qx617 _ _ _ ?_
            refine qe616 _ _ ?_
            refine qn615 _ _ ?_
            obtain rfl := Option.some.inj h22
            refine EOk.done ?_
            exact ⟨⟨_, rfl⟩, [], trivial, ⟨trivial, trivial, rfl, rfl⟩⟩
          · obtain ⟨hx27, hd2, hlt28⟩ := restCons hd24
            replace h22 := (qclaw3_CodeWays_l1.eq_2 _ _ _ _ _).symm.trans h22
            refine COk.seqQ fun Q620 qn620 qx620 qr620 => ?_
            refine gor hn ?_
            refine qn620 _ _ ?_
            refine COk.seqQ fun Q621 qn621 qx621 qr621 => ?_
            refine goc hn ?_
            refine bselT hlt28 ?_
            refine gok hn ?_
            refine qn621 _ _ ?_
            refine COk.seqQ fun Q622 qn622 qx622 qr622 => ?_
            obtain ⟨o30, h29, h22⟩ := bindM h22
            refine COk.joinR (ι := { s : Unit // o30 = Ctl.next s }) (fun s => [(7, .own 26), (47, .sl 5 (List.map eIns a2.code)), (48, .int (a2.code.length : Int)), (49, .int (k20 : Int))]) (fun s => [(26, .row 1 (List.map eInt r7.1) 3)]) (fun Q675 qn675 qx675 qr675 => ?_) (by intro s; rw [hn]; rfl) ?_
            · refine COk.blkQ fun Q676 qn676 qe676 qx676 qr676 => ?_
              refine COk.seqQ fun Q677 qn677 qx677 qr677 => ?_
              refine gor hn ?_
              refine idxK hx27 ?_
              refine qn677 _ _ ?_
              refine COk.seqQ fun Q678 qn678 qx678 qr678 => ?_
              refine COk.seqQ fun Q679 qn679 qx679 qr679 => ?_
              refine gor hn ?_
              obtain ⟨x31, hx32, h29⟩ := bindM h29
              refine ownM hx32 ?_
              refine ldM (nthO_some hx32).2 ?_
              refine qn679 _ _ ?_
              refine goc hn ?_
              refine bselM h29 (fun hb33 h29 => ?_) (fun hb33 h29 => ?_)
              · refine goe hn ?_
                refine qx678 _ _ _ ?_
                refine qe676 _ _ ?_
                refine qn675 _ _ ?_
                obtain rfl := Option.some.inj h29
                refine EOk.done ?_
                exact ⟨⟨_, rfl⟩, [], trivial, ⟨⟨rfl, (by repeat (first | exact trivial | exact rfl | (refine And.intro ?_ ?_))), rfl, rfl, trivial⟩, ⟨rfl, trivial⟩, rfl, rfl⟩⟩
              · refine gok hn ?_
                refine qn678 _ _ ?_
                refine COk.seqQ fun Q680 qn680 qx680 qr680 => ?_
                refine gor hn ?_
                obtain ⟨r34, hr35, h29⟩ := bindM h29
                show CallOk Try.prog _ _ _ _
                refine CallOk.as ((qcref1_Next_ok N x26 (k20 : Int) r34 hr35).sw 0 62) (by repeat (first | exact trivial | exact rfl | (refine And.intro ?_ ?_))) trivial rfl ?_
                refine qn680 _ _ ?_
                refine COk.seqQ fun Q681 qn681 qx681 qr681 => ?_
                refine COk.seqQ fun Q682 qn682 qx682 qr682 => ?_
                obtain ⟨o38, h37, h29⟩ := bindM h29
                refine COk.joinR (ι := { s : Bool // o38 = s }) (fun s => [(7, .own 26), (9, .int (k20 : Int)), (12, .int r34.2.1), (13, .own 62), (47, .sl 5 (List.map eIns a2.code)), (48, .int (a2.code.length : Int)), (49, .int (k20 : Int)), (90, .bool s.1)]) (fun s => [(26, .row 1 (List.map eInt r7.1) 3), (62, .row 1 (List.map eInt r34.2.2) 3)]) (fun Q683 qn683 qx683 qr683 => ?_) (by intro s; rw [hn]; rfl) ?_
                · refine COk.sub (ts2 := [(7, .own 26), (9, .int (k20 : Int)), (10, .ptr 10 0), (11, .int r34.1), (12, .int r34.2.1), (13, .own 62), (47, .sl 5 (List.map eIns a2.code)), (48, .int (a2.code.length : Int)), (49, .int (k20 : Int))]) (os2 := [(10, .box (eIns x26) 81), (26, .row 1 (List.map eInt r7.1) 3), (62, .row 1 (List.map eInt r34.2.2) 3)]) [] ⟨⟨rfl, rfl, rfl, rfl, rfl, rfl, (by repeat (first | exact trivial | exact rfl | (refine And.intro ?_ ?_))), rfl, rfl, trivial⟩, ⟨rfl, rfl, rfl, trivial⟩, rfl, rfl⟩ (by rw [hn]; rfl) ?_
                  refine gor hn ?_
                  obtain ⟨x39, hx40, h37⟩ := bindM h37
                  refine ownM hx40 ?_
                  refine ldM (nthO_some hx40).2 ?_
                  refine bselM h37 (fun hb41 h37 => ?_) (fun hb41 h37 => ?_)
                  · refine bselT hb41 ?_
                    refine bselT hb41 ?_
                    refine bselT hb41 ?_
                    refine bselT hb41 ?_
                    refine bselT hb41 ?_
                    refine qn683 _ _ ?_
                    obtain rfl := Option.some.inj h37
                    refine EOk.done ?_
                    exact ⟨⟨_, rfl⟩, [], trivial, ⟨⟨rfl, rfl, rfl, rfl, (by repeat (first | exact trivial | exact rfl | (refine And.intro ?_ ?_))), rfl, rfl, rfl, trivial⟩, ⟨rfl, rfl, trivial⟩, rfl, rfl⟩⟩
                  · refine bselF hb41 ?_
                    refine bselF hb41 ?_
                    obtain ⟨x42, hx43, h37⟩ := bindM h37
                    refine ownM hx43 ?_
                    refine bselF hb41 ?_
                    refine ldM (nthO_some hx43).2 ?_
                    refine bselF hb41 ?_
                    refine bselF hb41 ?_
                    refine bselM h37 (fun hb44 h37 => ?_) (fun hb44 h37 => ?_)
                    · refine bselT hb44 ?_
                      refine bselT hb44 ?_
                      refine bselT hb44 ?_
                      refine bselT hb44 ?_
                      refine bselT hb44 ?_
                      refine qn683 _ _ ?_
                      obtain rfl := Option.some.inj h37
                      refine EOk.done ?_
                      exact ⟨⟨_, rfl⟩, [], trivial, ⟨⟨rfl, rfl, rfl, rfl, (by repeat (first | exact trivial | exact rfl | (refine And.intro ?_ ?_))), rfl, rfl, rfl, trivial⟩, ⟨rfl, rfl, trivial⟩, rfl, rfl⟩⟩
                    · refine bselF hb44 ?_
                      refine bselF hb44 ?_
                      refine bselF hb44 ?_
                      refine bselM h37 (fun hb45 h37 => ?_) (fun hb45 h37 => ?_)
                      · refine bselT hb45 ?_
                        refine bselT hb45 ?_
                        obtain ⟨x46, hx47, h37⟩ := bindM h37
                        refine ownM hx47 ?_
                        refine bselT hb45 ?_
                        refine ldM (nthO_some hx47).2 ?_
                        refine bselT hb45 ?_
                        refine bselF hb44 ?_
                        refine bselT hb45 ?_
                        refine bselF hb44 ?_
                        refine qn683 _ _ ?_
                        obtain rfl := Option.some.inj h37
                        refine EOk.done ?_
                        exact ⟨⟨_, rfl⟩, [], trivial, ⟨⟨rfl, rfl, rfl, rfl, (by repeat (first | exact trivial | exact rfl | (refine And.intro ?_ ?_))), rfl, rfl, rfl, trivial⟩, ⟨rfl, rfl, trivial⟩, rfl, rfl⟩⟩
                      · refine bselF hb45 ?_
                        refine bselF hb45 ?_
                        refine bselF hb45 ?_
                        refine bselF hb45 ?_
                        refine bselF hb44 ?_
                        refine bselF hb45 ?_
                        refine bselF hb44 ?_
                        refine qn683 _ _ ?_
                        obtain rfl := Option.some.inj h37
                        refine EOk.done ?_
                        exact ⟨⟨_, rfl⟩, [], trivial, ⟨⟨rfl, rfl, rfl, rfl, (by repeat (first | exact trivial | exact rfl | (refine And.intro ?_ ?_))), rfl, rfl, rfl, trivial⟩, ⟨rfl, rfl, trivial⟩, rfl, rfl⟩⟩
                rintro ⟨v36, hv_⟩
                replace hv_ := hv_.symm
                subst hv_
                refine qn682 _ _ ?_
                refine goc hn ?_
                refine bselM h29 (fun hb48 h29 => ?_) (fun hb48 h29 => ?_)
                · refine COk.seqQ fun Q685 qn685 qx685 qr685 => ?_
                  refine gor hn ?_
                  refine qn685 _ _ ?_
                  refine got hn ?_
                  refine qr681 _ _ ?_
                  refine qr676 _ _ ?_
                  refine qr675 _ _ ?_
                  refine qr622 _ _ ?_
                  refine qr617 _ _ ?_
                  refine qr616 _ _ ?_
                  refine qr615 _ _ ?_
                  refine qr380 _ _ ?_
                  obtain rfl := Option.some.inj h29
                  obtain rfl := Option.some.inj h22
                  obtain rfl := Option.some.inj h
                  exact ⟨[], _, rfl, (by repeat (first | exact trivial | exact rfl | (refine And.intro ?_ ?_))), trivial, rfl, rfl, rfl, rfl, rfl⟩
                · refine gok hn ?_
                  refine qn681 _ _ ?_
                  refine COk.seqQ fun Q686 qn686 qx686 qr686 => ?_
                  refine gor hn ?_
                  refine lenM (fun hl49 => ?_)
                  refine qn686 _ _ ?_
                  obtain ⟨o51, h52, h29⟩ := bindM h29
                  refine COk.joinR (ι := { s : Unit // o51 = Ctl.next s }) (fun s => [(7, .own 26), (47, .sl 5 (List.map eIns a2.code)), (48, .int (a2.code.length : Int)), (49, .int (k20 : Int))]) (fun s => [(26, .row 1 (List.map eInt r7.1) 3)]) (fun Q709 qn709 qx709 qr709 => ?_) (by intro s; rw [hn]; rfl) ?_
                  · refine COk.blkQ fun Q710 qn710 qe710 qx710 qr710 => ?_
                    refine COk.loopQ (ι := { q : ((List Int) × Nat) // q.1 = r34.2.2.drop q.2 ∧ qclaw3_CodeWays_l2 N r7 k20 r34 q.1 q.2 = some o51 }) (fun q => [(7, .own 26), (9, .int (k20 : Int)), (12, .int r34.2.1), (47, .sl 5 (List.map eIns a2.code)), (48, .int (a2.code.length : Int)), (49, .int (k20 : Int)), (91, .own 62), (92, .int (r34.2.2.length : Int)), (93, .int (q.1.2 : Int))]) (fun q => [(26, .row 1 (List.map eInt r7.1) 3), (62, .row 1 (List.map eInt r34.2.2) 3)]) (fun q => q.1.1.length) ⟨(r34.2.2, 0), rfl, h52⟩ [] ⟨⟨rfl, rfl, rfl, (by repeat (first | exact trivial | exact rfl | (refine And.intro ?_ ?_))), rfl, rfl, rfl, rfl, rfl, trivial⟩, ⟨rfl, rfl, trivial⟩, rfl, rfl⟩ (by intro q; rw [hn]; rfl) ?_
                    rintro ⟨⟨rest_, k50⟩, hd54, h52⟩ Q711 qn711 qx711 qr711
                    replace hd54 : rest_ = r34.2.2.drop k50 := hd54
                    rcases rest_ with _ | ⟨x56, rest53⟩
                    · have hlt58 := restNil hd54
                      replace h52 := (qclaw3_CodeWays_l2.eq_1 _ _ _ _ _).symm.trans h52
                      refine COk.seqQ fun Q712 qn712 qx712 qr712 => ?_
                      refine gor hn ?_
                      refine qn712 _ _ ?_
                      refine COk.seqQ fun Q713 qn713 qx713 qr713 => ?_
                      refine goc hn ?_
                      refine bselF hlt58 ?_
                      refine goe hn ?_
                      refine qx713 _ _ _ ?_
                      refine qx711 _ _ _ ?_
                      refine qe710 _ _ ?_
                      refine qn709 _ _ ?_
                      obtain rfl := Option.some.inj h52
                      refine EOk.done ?_
                      exact ⟨⟨_, rfl⟩, [], trivial, ⟨⟨rfl, (by repeat (first | exact trivial | exact rfl | (refine And.intro ?_ ?_))), rfl, rfl, trivial⟩, ⟨rfl, trivial⟩, rfl, rfl⟩⟩
                    · obtain ⟨hx57, hd2, hlt58⟩ := restCons hd54
                      replace h52 := (qclaw3_CodeWays_l2.eq_2 _ _ _ _ _ _ _).symm.trans h52
                      refine COk.seqQ fun Q714 qn714 qx714 qr714 => ?_
                      refine gor hn ?_
                      refine qn714 _ _ ?_
                      refine COk.seqQ fun Q715 qn715 qx715 qr715 => ?_
                      refine goc hn ?_
                      refine bselT hlt58 ?_
                      refine gok hn ?_
                      refine qn715 _ _ ?_
                      refine COk.seqQ fun Q716 qn716 qx716 qr716 => ?_
                      refine COk.blkQ fun Q723 qn723 qe723 qx723 qr723 => ?_
                      refine COk.seqQ fun Q724 qn724 qx724 qr724 => ?_
                      refine gor hn ?_
                      obtain ⟨x59, hx60, h52⟩ := bindM h52
                      refine ownM hx60 ?_
                      refine ldM (nthO_some hx60).2 ?_
                      refine qn724 _ _ ?_
                      refine COk.seqQ fun Q725 qn725 qx725 qr725 => ?_
                      obtain ⟨o63, h62, h52⟩ := bindM h52
                      refine COk.joinR (ι := { s : Bool // o63 = s }) (fun s => [(7, .own 26), (9, .int (k20 : Int)), (12, .int r34.2.1), (47, .sl 5 (List.map eIns a2.code)), (48, .int (a2.code.length : Int)), (49, .int (k20 : Int)), (91, .own 62), (92, .int (r34.2.2.length : Int)), (93, .int (k50 : Int)), (117, .bool s.1)]) (fun s => [(26, .row 1 (List.map eInt r7.1) 3), (62, .row 1 (List.map eInt r34.2.2) 3)]) (fun Q726 qn726 qx726 qr726 => ?_) (by intro s; rw [hn]; rfl) ?_
                      · refine COk.sub (ts2 := [(7, .own 26), (9, .int (k20 : Int)), (12, .int r34.2.1), (15, .int x59), (47, .sl 5 (List.map eIns a2.code)), (48, .int (a2.code.length : Int)), (49, .int (k20 : Int)), (91, .own 62), (92, .int (r34.2.2.length : Int)), (93, .int (k50 : Int))]) (os2 := [(26, .row 1 (List.map eInt r7.1) 3), (62, .row 1 (List.map eInt r34.2.2) 3)]) [] ⟨⟨rfl, rfl, rfl, rfl, (by repeat (first | exact trivial | exact rfl | (refine And.intro ?_ ?_))), rfl, rfl, rfl, rfl, rfl, trivial⟩, ⟨rfl, rfl, trivial⟩, rfl, rfl⟩ (by rw [hn]; rfl) ?_
                        refine god hn (by kernel_rfl) ?_
                        refine bselM h62 (fun hb64 h62 => ?_) (fun hb64 h62 => ?_)
                        · refine bselT hb64 ?_
                          refine bselT hb64 ?_
                          refine bselT hb64 ?_
                          refine bselT hb64 ?_
                          refine qn726 _ _ ?_
                          obtain rfl := Option.some.inj h62
                          refine EOk.done ?_
                          exact ⟨⟨_, rfl⟩, [], trivial, ⟨⟨rfl, rfl, rfl, (by repeat (first | exact trivial | exact rfl | (refine And.intro ?_ ?_))), rfl, rfl, rfl, rfl, rfl, rfl, trivial⟩, ⟨rfl, rfl, trivial⟩, rfl, rfl⟩⟩
                        · refine bselF hb64 ?_
                          refine bselF hb64 ?_
                          refine lenM (fun hl65 => ?_)
                          refine bselF hb64 ?_
                          refine bselF hb64 ?_
                          refine bselM h62 (fun hb66 h62 => ?_) (fun hb66 h62 => ?_)
                          · refine bselT hb66 ?_
                            refine bselT hb66 ?_
                            refine bselT hb66 ?_
                            refine bselT hb66 ?_
                            refine bselT hb66 ?_
                            refine bselT hb66 ?_
                            refine bselT hb66 ?_
                            refine bselT hb66 ?_
                            refine bselT hb66 ?_
                            refine bselT hb66 ?_
                            refine bselT hb66 ?_
                            refine qn726 _ _ ?_
                            obtain rfl := Option.some.inj h62
                            refine EOk.done ?_
                            exact ⟨⟨_, rfl⟩, [], trivial, ⟨⟨rfl, rfl, rfl, (by repeat (first | exact trivial | exact rfl | (refine And.intro ?_ ?_))), rfl, rfl, rfl, rfl, rfl, rfl, trivial⟩, ⟨rfl, rfl, trivial⟩, rfl, rfl⟩⟩
                          · refine bselF hb66 ?_
                            refine bselF hb66 ?_
                            obtain ⟨x67, hx68, h62⟩ := bindM h62
                            refine ownM hx68 ?_
                            refine bselF hb66 ?_
                            refine ldM (nthO_some hx68).2 ?_
                            refine bselF hb66 ?_
                            refine bselF hb66 ?_
                            refine bselF hb66 ?_
                            obtain ⟨x69, hx70, h62⟩ := bindM h62
                            refine ownM hx70 ?_
                            refine bselF hb66 ?_
                            refine ldM (nthO_some hx70).2 ?_
                            refine bselF hb66 ?_
                            refine bselF hb66 ?_
                            refine Or.inr ?_
                            refine bselF hb66 ?_
                            refine bselF hb66 ?_
                            refine qn726 _ _ ?_
                            obtain rfl := Option.some.inj h62
                            refine EOk.done ?_
                            exact ⟨⟨_, rfl⟩, [], trivial, ⟨⟨rfl, rfl, rfl, (by repeat (first | exact trivial | exact rfl | (refine And.intro ?_ ?_))), rfl, rfl, rfl, rfl, rfl, rfl, trivial⟩, ⟨rfl, rfl, trivial⟩, rfl, rfl⟩⟩
                      rintro ⟨v61, hv_⟩
                      replace hv_ := hv_.symm
                      subst hv_
                      refine qn725 _ _ ?_
                      refine goc hn ?_
                      refine bselM h52 (fun hb71 h52 => ?_) (fun hb71 h52 => ?_)
                      · refine COk.seqQ fun Q727 qn727 qx727 qr727 => ?_
                        refine gor hn ?_
                        refine qn727 _ _ ?_
                        refine got hn ?_
                        refine qr723 _ _ ?_
                        refine qr716 _ _ ?_
                        refine qr711 _ _ ?_
                        refine qr710 _ _ ?_
                        refine qr709 _ _ ?_
                        refine qr676 _ _ ?_
                        refine qr675 _ _ ?_
                        refine qr622 _ _ ?_
                        refine qr617 _ _ ?_
                        refine qr616 _ _ ?_
                        refine qr615 _ _ ?_
                        refine qr380 _ _ ?_
                        obtain rfl := Option.some.inj h52
                        obtain rfl := Option.some.inj h29
                        obtain rfl := Option.some.inj h22
                        obtain rfl := Option.some.inj h
                        exact ⟨[], _, rfl, (by repeat (first | exact trivial | exact rfl | (refine And.intro ?_ ?_))), trivial, rfl, rfl, rfl, rfl, rfl⟩
                      · refine gok hn ?_
                        refine qn723 _ _ ?_
                        refine qn716 _ _ ?_
                        refine gor hn ?_
                        refine Or.inl (And.intro (inrK hx57 hl49) ?_)
                        refine qn711 _ _ ?_
                        refine EOk.done ?_
                        exact ⟨⟨(rest53, k50 + 1), hd2, h52⟩, [], by show rest53.length < rest53.length + 1; omega, ⟨⟨rfl, rfl, rfl, (by repeat (first | exact trivial | exact rfl | (refine And.intro ?_ ?_))), rfl, rfl, rfl, rfl, rfl, trivial⟩, ⟨rfl, rfl, trivial⟩, rfl, rfl⟩⟩
                  rintro ⟨⟨⟩, rfl⟩
                  refine qn676 _ _ ?_
                  refine qn675 _ _ ?_
                  obtain rfl := Option.some.inj h29
                  refine EOk.done ?_
                  exact ⟨⟨_, rfl⟩, [], trivial, ⟨⟨rfl, (by repeat (first | exact trivial | exact rfl | (refine And.intro ?_ ?_))), rfl, rfl, trivial⟩, ⟨rfl, trivial⟩, rfl, rfl⟩⟩
            rintro ⟨⟨⟩, rfl⟩
            refine qn622 _ _ ?_
            refine gor hn ?_
            refine Or.inl (And.intro (inrK hx27 hl19) ?_)
            refine qn617 _ _ ?_
            refine EOk.done ?_
            exact ⟨⟨(rest23, k20 + 1), hd2, h22⟩, [], by show rest23.length < rest23.length + 1; omega, ⟨⟨rfl, (by repeat (first | exact trivial | exact rfl | (refine And.intro ?_ ?_))), rfl, rfl, trivial⟩, ⟨rfl, trivial⟩, rfl, rfl⟩⟩
        rintro ⟨⟨⟩, rfl⟩
        refine qn380 _ _ ?_
        refine COk.seqQ fun Q728 qn728 qx728 qr728 => ?_
        refine gor hn ?_
        refine qn728 _ _ ?_
        refine got hn ?_
        obtain rfl := Option.some.inj h
        exact ⟨[], _, rfl, (by repeat (first | exact trivial | exact rfl | (refine And.intro ?_ ?_))), trivial, rfl, rfl, rfl, rfl, rfl⟩
end Go.Proofs.Ytioalgofaiideaa
