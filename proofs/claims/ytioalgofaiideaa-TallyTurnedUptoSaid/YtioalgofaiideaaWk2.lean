/- Walks after the mirrors. Printed by mir.py. -/
import Derived.Test.YtioalgofaiideaaWk1
namespace Go.Proofs.Ytioalgofaiideaa
open Go.RowKit
set_option linter.unusedVariables false
/- qclaw7.alive -/
set_option maxRecDepth 100000 in
set_option maxHeartbeats 1000000 in
theorem qclaw7_alive_ok (N : Nat) (r : Bool) (h : qclaw7_alive N  = some r) : Spec Try.prog 21 [] [] (.bool r) [] [] := by
  refine Spec.of tabOk Try.func21 rfl Try.ntmps21 (by kernel_rfl) rfl rfl rfl fun Γ hn => ?_
  unfold qclaw7_alive at h
  refine COk.seqQ fun Q7 qn7 qx7 qr7 => ?_
  refine gor hn ?_
  refine qn7 _ _ ?_
  refine COk.seqQ fun Q8 qn8 qx8 qr8 => ?_
  refine gor hn ?_
  refine qn8 _ _ ?_
  refine COk.seqQ fun Q9 qn9 qx9 qr9 => ?_
  refine god hn (by kernel_rfl) ?_
  obtain ⟨r1, hr2, h⟩ := bindM h
  show CallOk Try.prog _ _ _ _
  refine CallOk.as ((tally_Add_ok N [] (⟨(4 : Int), (⟨#[109]⟩ : ByteArray), (2 : Int)⟩ : St) (5 : Int) r1 hr2).sw 0 7) (by repeat (first | exact trivial | exact rfl | (refine And.intro ?_ ?_))) trivial rfl ?_
  obtain ⟨r3, hr4, h⟩ := bindM h
  show CallOk Try.prog _ _ _ _
  refine CallOk.fz ((tally_Add_ok N r1 (⟨(4 : Int), (⟨#[109]⟩ : ByteArray), (2 : Int)⟩ : St) (4 : Int) r3 hr4).sw 0 9) (by repeat (first | exact trivial | exact rfl | (refine And.intro ?_ ?_))) trivial rfl rfl ?_
  obtain ⟨r5, hr6, h⟩ := bindM h
  show CallOk Try.prog _ _ _ _
  refine CallOk.fz ((tally_Add_ok N r3 (⟨(4 : Int), (⟨#[109]⟩ : ByteArray), (2 : Int)⟩ : St) (4 : Int) r5 hr6).sw 0 11) (by repeat (first | exact trivial | exact rfl | (refine And.intro ?_ ?_))) trivial rfl rfl ?_
  refine qn9 _ _ ?_
  refine COk.seqQ fun Q10 qn10 qx10 qr10 => ?_
  refine gor hn ?_
  obtain ⟨r7, hr8, h⟩ := bindM h
  show CallOk Try.prog _ _ _ _
  refine CallOk.lend (tally_Most_ok N r5 (⟨(4 : Int), (⟨#[109]⟩ : ByteArray), (2 : Int)⟩ : St) r7 hr8) (by repeat (first | exact trivial | exact rfl | (refine And.intro ?_ ?_))) rfl ?_
  refine qn10 _ _ ?_
  refine COk.seqQ fun Q11 qn11 qx11 qr11 => ?_
  obtain ⟨o11, h10, h⟩ := bindM h
  refine COk.joinR (ι := { s : Bool // o11 = s }) (fun s => [(0, .bool s.1)]) (fun s => []) (fun Q12 qn12 qx12 qr12 => ?_) (by intro s; rw [hn]; rfl) ?_
  · refine COk.fzAll 11 rfl ?_
    refine COk.sub (ts2 := [(1, .ptr 1 0), (2, .sl 4 (List.map eTl r5)), (3, .int r7.1), (4, .int r7.2)]) (os2 := [(1, .box [.int (4 : Int), .str (⟨#[109]⟩ : ByteArray), .int (2 : Int)] 24)]) [] ⟨⟨rfl, (by repeat (first | exact trivial | exact rfl | (refine And.intro ?_ ?_))), rfl, rfl, trivial⟩, ⟨rfl, trivial⟩, rfl, rfl⟩ (by rw [hn]; rfl) ?_
    refine gor hn ?_
    refine lenM (fun hl12 => ?_)
    refine bselM h10 (fun hb13 h10 => ?_) (fun hb13 h10 => ?_)
    · refine bselT hb13 ?_
      refine bselT hb13 ?_
      obtain ⟨r14, hr15, h10⟩ := bindM h10
      show CallOk Try.prog _ _ _ _
      refine CallOk.as (tally_All_ok N r5 (⟨(4 : Int), (⟨#[109]⟩ : ByteArray), (2 : Int)⟩ : St) r14 hr15) (by repeat (first | exact trivial | exact rfl | (refine And.intro ?_ ?_))) trivial rfl ?_
      refine bselT hb13 ?_
      refine bselT hb13 ?_
      refine bselM h10 (fun hb16 h10 => ?_) (fun hb16 h10 => ?_)
      · refine bselT hb16 ?_
        refine bselT hb16 ?_
        refine bselM h10 (fun hb17 h10 => ?_) (fun hb17 h10 => ?_)
        · refine bselT hb17 ?_
          refine bselT hb17 ?_
          refine bselM h10 (fun hb18 h10 => ?_) (fun hb18 h10 => ?_)
          · refine bselT hb18 ?_
            obtain ⟨r19, hr20, h10⟩ := bindM h10
            show CallOk Try.prog _ _ _ _
            refine CallOk.as ((tally_Own_ok N r5 r19 hr20).sw 0 37) (by repeat (first | exact trivial | exact rfl | (refine And.intro ?_ ?_))) trivial rfl ?_
            refine bselT hb18 ?_
            refine lenM (fun hl21 => ?_)
            refine bselT hb18 ?_
            refine bselT hb18 ?_
            refine qn12 _ _ ?_
            obtain rfl := Option.some.inj h10
            refine EOk.done ?_
            exact ⟨⟨_, rfl⟩, [], trivial, ⟨⟨rfl, trivial⟩, trivial, rfl, rfl⟩⟩
          · refine bselF hb18 ?_
            refine bselF hb18 ?_
            refine bselF hb18 ?_
            refine bselF hb18 ?_
            refine qn12 _ _ ?_
            obtain rfl := Option.some.inj h10
            refine EOk.done ?_
            exact ⟨⟨_, rfl⟩, [], trivial, ⟨⟨rfl, trivial⟩, trivial, rfl, rfl⟩⟩
        · refine bselF hb17 ?_
          refine bselF hb17 ?_
          refine qn12 _ _ ?_
          obtain rfl := Option.some.inj h10
          refine EOk.done ?_
          exact ⟨⟨_, rfl⟩, [], trivial, ⟨⟨rfl, trivial⟩, trivial, rfl, rfl⟩⟩
      · refine bselF hb16 ?_
        refine bselF hb16 ?_
        refine qn12 _ _ ?_
        obtain rfl := Option.some.inj h10
        refine EOk.done ?_
        exact ⟨⟨_, rfl⟩, [], trivial, ⟨⟨rfl, trivial⟩, trivial, rfl, rfl⟩⟩
    · refine bselF hb13 ?_
      refine bselF hb13 ?_
      refine bselF hb13 ?_
      refine bselF hb13 ?_
      refine qn12 _ _ ?_
      obtain rfl := Option.some.inj h10
      refine EOk.done ?_
      exact ⟨⟨_, rfl⟩, [], trivial, ⟨⟨rfl, trivial⟩, trivial, rfl, rfl⟩⟩
  rintro ⟨v9, hv_⟩
  replace hv_ := hv_.symm
  subst hv_
  refine qn11 _ _ ?_
  refine got hn ?_
  obtain rfl := Option.some.inj h
  exact ⟨[], _, rfl, (by repeat (first | exact trivial | exact rfl | (refine And.intro ?_ ?_))), trivial, rfl, rfl, rfl, rfl, rfl⟩

/- qclaw7.TallyTurned -/
set_option maxRecDepth 100000 in
set_option maxHeartbeats 1000000 in
theorem qclaw7_TallyTurned_ok (N : Nat) (a0 : (List St)) (a1 : (List Int)) (a2 : St) (r : Bool) (h : qclaw7_TallyTurned N a0 a1 a2 = some r) : Spec Try.prog 4 [] [.sl 3 (List.map eSt a0), .sl 1 (List.map eInt a1), .agg (eSt a2)] (.bool r) [] [] := by
  refine Spec.of tabOk Try.func4 rfl Try.ntmps4 (by kernel_rfl) rfl rfl rfl fun Γ hn => ?_
  unfold qclaw7_TallyTurned at h
  refine COk.seqQ fun Q144 qn144 qx144 qr144 => ?_
  refine gor hn ?_
  refine qn144 _ _ ?_
  refine COk.seqQ fun Q145 qn145 qx145 qr145 => ?_
  refine COk.seqQ fun Q146 qn146 qx146 qr146 => ?_
  refine gor hn ?_
  obtain ⟨r1, hr2, h⟩ := bindM h
  show CallOk Try.prog _ _ _ _
  refine CallOk.as (qclaw7_alive_ok N  r1 hr2) (by repeat (first | exact trivial | exact rfl | (refine And.intro ?_ ?_))) trivial rfl ?_
  refine qn146 _ _ ?_
  refine goc hn ?_
  refine bselM h (fun hb3 h => ?_) (fun hb3 h => ?_)
  · refine COk.seqQ fun Q148 qn148 qx148 qr148 => ?_
    refine gor hn ?_
    refine qn148 _ _ ?_
    refine got hn ?_
    refine qr145 _ _ ?_
    obtain rfl := Option.some.inj h
    exact ⟨[], _, rfl, (by repeat (first | exact trivial | exact rfl | (refine And.intro ?_ ?_))), trivial, rfl, rfl, rfl, rfl, rfl⟩
  · refine gok hn ?_
    refine qn145 _ _ ?_
    refine COk.seqQ fun Q149 qn149 qx149 qr149 => ?_
    refine gor hn ?_
    refine qn149 _ _ ?_
    refine COk.seqQ fun Q150 qn150 qx150 qr150 => ?_
    refine gor hn ?_
    refine qn150 _ _ ?_
    refine COk.seqQ fun Q151 qn151 qx151 qr151 => ?_
    refine COk.seqQ fun Q152 qn152 qx152 qr152 => ?_
    refine gor hn ?_
    refine lenM (fun hl4 => ?_)
    refine lenM (fun hl5 => ?_)
    refine qn152 _ _ ?_
    refine COk.nilrow 7 207 4 27 rfl rfl rfl ?_
    refine COk.nilrow 8 208 4 27 rfl rfl rfl ?_
    refine COk.rng 22 rfl (fun hrn => ?_)
    obtain ⟨o16, h17, h⟩ := bindM h
    refine COk.joinR (ι := { s : ((List Tl) × (List Tl) × Int) // o16 = Ctl.next s }) (fun s => [(5, .ptr 5 0), (7, .own 207), (8, .own 208), (9, .int s.1.2.2)]) (fun s => [(5, .box (eSt a2) 24), (207, .row 4 (List.map eTl s.1.1) 27), (208, .row 4 (List.map eTl s.1.2.1) 27)]) (fun Q253 qn253 qx253 qr253 => ?_) (by intro s; rw [hn]; rfl) ?_
    · refine COk.blkQ fun Q254 qn254 qe254 qx254 qr254 => ?_
      refine COk.loopQ (ι := { q : (Nat × Nat × (List Tl) × (List Tl) × Int) // q.1 = ((min (a0.length : Int) (a1.length : Int)) - (q.2.1 : Int)).toNat ∧ qclaw7_TallyTurned_l1 N a0 a1 a2 q.1 q.2.1 q.2.2.1 q.2.2.2.1 q.2.2.2.2 = some o16 }) (fun q => [(0, .sl 3 (List.map eSt a0)), (1, .sl 1 (List.map eInt a1)), (5, .ptr 5 0), (7, .own 207), (8, .own 208), (9, .int q.1.2.2.2.2), (22, .int (min (a0.length : Int) (a1.length : Int))), (23, .int (q.1.2.1 : Int))]) (fun q => [(5, .box (eSt a2) 24), (207, .row 4 (List.map eTl q.1.2.2.1) 27), (208, .row 4 (List.map eTl q.1.2.2.2.1) 27)]) (fun q => q.1.1) ⟨(((min (a0.length : Int) (a1.length : Int)) - ((0 : Nat) : Int)).toNat, 0, ([] : List Tl), ([] : List Tl), (0 : Int)), rfl, h17⟩ [] ⟨⟨(by repeat (first | exact trivial | exact rfl | (refine And.intro ?_ ?_))), (by repeat (first | exact trivial | exact rfl | (refine And.intro ?_ ?_))), rfl, rfl, rfl, rfl, rfl, rfl, trivial⟩, ⟨rfl, rfl, rfl, trivial⟩, rfl, rfl⟩ (by intro q; rw [hn]; rfl) ?_
      rintro ⟨⟨n_, k6, v7, v8, v9⟩, hd19, h17⟩ Q255 qn255 qx255 qr255
      replace hd19 : n_ = ((min (a0.length : Int) (a1.length : Int)) - (k6 : Int)).toNat := hd19
      rcases n_ with _ | n20
      · have hlt23 := upNil hd19
        replace h17 := (qclaw7_TallyTurned_l1.eq_1 _ _ _ _ _ _ _ _).symm.trans h17
        refine COk.seqQ fun Q256 qn256 qx256 qr256 => ?_
        refine gor hn ?_
        refine qn256 _ _ ?_
        refine COk.seqQ fun Q257 qn257 qx257 qr257 => ?_
        refine goc hn ?_
        refine bselF hlt23 ?_
        refine goe hn ?_
        refine qx257 _ _ _ ?_
        refine qx255 _ _ _ ?_
        refine qe254 _ _ ?_
        refine qn253 _ _ ?_
        obtain rfl := Option.some.inj h17
        refine EOk.done ?_
        exact ⟨⟨_, rfl⟩, [], trivial, ⟨⟨rfl, rfl, rfl, rfl, trivial⟩, ⟨rfl, rfl, rfl, trivial⟩, rfl, rfl⟩⟩
      · obtain ⟨hd2, hlt23⟩ := upCons hd19
        replace h17 := (qclaw7_TallyTurned_l1.eq_2 _ _ _ _ _ _ _ _ _).symm.trans h17
        refine COk.seqQ fun Q258 qn258 qx258 qr258 => ?_
        refine gor hn ?_
        refine qn258 _ _ ?_
        refine COk.seqQ fun Q259 qn259 qx259 qr259 => ?_
        refine goc hn ?_
        refine bselT hlt23 ?_
        refine gok hn ?_
        refine qn259 _ _ ?_
        refine COk.seqQ fun Q260 qn260 qx260 qr260 => ?_
        refine COk.blkQ fun Q272 qn272 qe272 qx272 qr272 => ?_
        refine COk.seqQ fun Q273 qn273 qx273 qr273 => ?_
        refine gor hn ?_
        refine qn273 _ _ ?_
        refine COk.seqQ fun Q274 qn274 qx274 qr274 => ?_
        refine gor hn ?_
        refine lenM (fun hl24 => ?_)
        refine lenM (fun hl25 => ?_)
        refine Or.inr ?_
        refine Or.inr ?_
        refine qn274 _ _ ?_
        refine COk.seqQ fun Q275 qn275 qx275 qr275 => ?_
        refine COk.seqQ fun Q276 qn276 qx276 qr276 => ?_
        refine COk.sub (ts2 := [(0, .sl 3 (List.map eSt a0)), (1, .sl 1 (List.map eInt a1)), (5, .ptr 5 0), (7, .own 207), (8, .own 208), (9, .int v9), (10, .int (k6 : Int)), (11, .int (wr ((wr ((min (a0.length : Int) (a1.length : Int)) - (1 : Int))) - (k6 : Int)))), (22, .int (min (a0.length : Int) (a1.length : Int))), (23, .int (k6 : Int))]) (os2 := [(5, .box (eSt a2) 24), (207, .row 4 (List.map eTl v7) 27), (208, .row 4 (List.map eTl v8) 27)]) [] ⟨⟨(by repeat (first | exact trivial | exact rfl | (refine And.intro ?_ ?_))), (by repeat (first | exact trivial | exact rfl | (refine And.intro ?_ ?_))), rfl, rfl, rfl, rfl, rfl, rfl, rfl, rfl, trivial⟩, ⟨rfl, rfl, rfl, trivial⟩, rfl, rfl⟩ (by rw [hn]; rfl) ?_
        refine gor hn ?_
        obtain ⟨x26, hx27, h17⟩ := bindM h17
        refine idxM hx27 ?_
        refine qn276 _ _ ?_
        refine goc hn ?_
        refine bselM h17 (fun hb28 h17 => ?_) (fun hb28 h17 => ?_)
        · refine COk.seqQ fun Q278 qn278 qx278 qr278 => ?_
          refine gor hn ?_
          refine qn278 _ _ ?_
          refine got hn ?_
          refine qr275 _ _ ?_
          refine qr272 _ _ ?_
          refine qr260 _ _ ?_
          refine qr255 _ _ ?_
          refine qr254 _ _ ?_
          refine qr253 _ _ ?_
          refine qr151 _ _ ?_
          obtain rfl := Option.some.inj h17
          obtain rfl := Option.some.inj h
          exact ⟨[], _, rfl, (by repeat (first | exact trivial | exact rfl | (refine And.intro ?_ ?_))), trivial, rfl, rfl, rfl, rfl, rfl⟩
        · refine gok hn ?_
          refine qn275 _ _ ?_
          refine COk.seqQ fun Q279 qn279 qx279 qr279 => ?_
          refine COk.fzAll 207 rfl ?_
          refine COk.sub (ts2 := [(0, .sl 3 (List.map eSt a0)), (1, .sl 1 (List.map eInt a1)), (5, .ptr 5 0), (7, .sl 4 (List.map eTl v7)), (8, .own 208), (9, .int v9), (10, .int (k6 : Int)), (11, .int (wr ((wr ((min (a0.length : Int) (a1.length : Int)) - (1 : Int))) - (k6 : Int)))), (22, .int (min (a0.length : Int) (a1.length : Int))), (23, .int (k6 : Int))]) (os2 := [(5, .box (eSt a2) 24), (208, .row 4 (List.map eTl v8) 27)]) [] ⟨⟨(by repeat (first | exact trivial | exact rfl | (refine And.intro ?_ ?_))), (by repeat (first | exact trivial | exact rfl | (refine And.intro ?_ ?_))), rfl, (by repeat (first | exact trivial | exact rfl | (refine And.intro ?_ ?_))), rfl, rfl, rfl, rfl, rfl, rfl, trivial⟩, ⟨rfl, rfl, trivial⟩, rfl, rfl⟩ (by rw [hn]; rfl) ?_
          refine god hn (by kernel_rfl) ?_
          obtain ⟨x29, hx30, h17⟩ := bindM h17
          refine idxM hx30 ?_
          obtain ⟨x31, hx32, h17⟩ := bindM h17
          refine idxM hx32 ?_
          obtain ⟨r33, hr34, h17⟩ := bindM h17
          show CallOk Try.prog _ _ _ _
          refine CallOk.as ((tally_Add_ok N v7 x29 x31 r33 hr34).sw 0 48) (by repeat (first | exact trivial | exact rfl | (refine And.intro ?_ ?_))) trivial rfl ?_
          refine qn279 _ _ ?_
          refine COk.seqQ fun Q280 qn280 qx280 qr280 => ?_
          refine COk.fzAll 208 rfl ?_
          refine COk.sub (ts2 := [(0, .sl 3 (List.map eSt a0)), (1, .sl 1 (List.map eInt a1)), (5, .ptr 5 0), (7, .own 48), (8, .sl 4 (List.map eTl v8)), (9, .int v9), (10, .int (k6 : Int)), (11, .int (wr ((wr ((min (a0.length : Int) (a1.length : Int)) - (1 : Int))) - (k6 : Int)))), (22, .int (min (a0.length : Int) (a1.length : Int))), (23, .int (k6 : Int))]) (os2 := [(5, .box (eSt a2) 24), (48, .row 4 (List.map eTl r33) 27)]) [] ⟨⟨(by repeat (first | exact trivial | exact rfl | (refine And.intro ?_ ?_))), (by repeat (first | exact trivial | exact rfl | (refine And.intro ?_ ?_))), rfl, rfl, (by repeat (first | exact trivial | exact rfl | (refine And.intro ?_ ?_))), rfl, rfl, rfl, rfl, rfl, trivial⟩, ⟨rfl, rfl, trivial⟩, rfl, rfl⟩ (by rw [hn]; rfl) ?_
          refine god hn (by kernel_rfl) ?_
          obtain ⟨x35, hx36, h17⟩ := bindM h17
          refine idxM hx36 ?_
          obtain ⟨x37, hx38, h17⟩ := bindM h17
          refine idxM hx38 ?_
          obtain ⟨r39, hr40, h17⟩ := bindM h17
          show CallOk Try.prog _ _ _ _
          refine CallOk.as ((tally_Add_ok N v8 x35 x37 r39 hr40).sw 0 58) (by repeat (first | exact trivial | exact rfl | (refine And.intro ?_ ?_))) trivial rfl ?_
          refine qn280 _ _ ?_
          refine COk.seqQ fun Q281 qn281 qx281 qr281 => ?_
          refine COk.sub (ts2 := [(0, .sl 3 (List.map eSt a0)), (1, .sl 1 (List.map eInt a1)), (5, .ptr 5 0), (7, .own 48), (8, .own 58), (9, .int v9), (10, .int (k6 : Int)), (22, .int (min (a0.length : Int) (a1.length : Int))), (23, .int (k6 : Int))]) (os2 := [(5, .box (eSt a2) 24), (48, .row 4 (List.map eTl r33) 27), (58, .row 4 (List.map eTl r39) 27)]) [] ⟨⟨(by repeat (first | exact trivial | exact rfl | (refine And.intro ?_ ?_))), (by repeat (first | exact trivial | exact rfl | (refine And.intro ?_ ?_))), rfl, rfl, rfl, rfl, rfl, rfl, rfl, trivial⟩, ⟨rfl, rfl, rfl, trivial⟩, rfl, rfl⟩ (by rw [hn]; rfl) ?_
          refine god hn (by kernel_rfl) ?_
          obtain ⟨x41, hx42, h17⟩ := bindM h17
          refine idxM hx42 ?_
          refine qn281 _ _ ?_
          obtain ⟨o45, h44, h17⟩ := bindM h17
          refine COk.joinR (ι := { s : Int // o45 = s }) (fun s => [(0, .sl 3 (List.map eSt a0)), (1, .sl 1 (List.map eInt a1)), (5, .ptr 5 0), (7, .own 48), (8, .own 58), (9, .int s.1), (22, .int (min (a0.length : Int) (a1.length : Int))), (23, .int (k6 : Int))]) (fun s => [(5, .box (eSt a2) 24), (48, .row 4 (List.map eTl r33) 27), (58, .row 4 (List.map eTl r39) 27)]) (fun Q282 qn282 qx282 qr282 => ?_) (by intro s; rw [hn]; rfl) ?_
          · refine goc hn ?_
            refine bselM h44 (fun hb46 h44 => ?_) (fun hb46 h44 => ?_)
            · refine gor hn ?_
              refine Or.inr ?_
              refine qn282 _ _ ?_
              obtain rfl := Option.some.inj h44
              refine EOk.done ?_
              exact ⟨⟨_, rfl⟩, [], trivial, ⟨⟨(by repeat (first | exact trivial | exact rfl | (refine And.intro ?_ ?_))), (by repeat (first | exact trivial | exact rfl | (refine And.intro ?_ ?_))), rfl, rfl, rfl, rfl, rfl, rfl, trivial⟩, ⟨rfl, rfl, rfl, trivial⟩, rfl, rfl⟩⟩
            · refine gok hn ?_
              refine qn282 _ _ ?_
              obtain rfl := Option.some.inj h44
              refine EOk.done ?_
              exact ⟨⟨_, rfl⟩, [], trivial, ⟨⟨(by repeat (first | exact trivial | exact rfl | (refine And.intro ?_ ?_))), (by repeat (first | exact trivial | exact rfl | (refine And.intro ?_ ?_))), rfl, rfl, rfl, rfl, rfl, rfl, trivial⟩, ⟨rfl, rfl, rfl, trivial⟩, rfl, rfl⟩⟩
          rintro ⟨v43, hv_⟩
          replace hv_ := hv_.symm
          subst hv_
          refine qn272 _ _ ?_
          refine qn260 _ _ ?_
          refine gor hn ?_
          refine Or.inl (And.intro (inrU hlt23 hrn) ?_)
          refine qn255 _ _ ?_
          refine EOk.done ?_
          exact ⟨⟨(n20, k6 + 1, r33, r39, v43), hd2, h17⟩, [(207, 48), (208, 58)], by show n20 < n20 + 1; omega, ⟨⟨(by repeat (first | exact trivial | exact rfl | (refine And.intro ?_ ?_))), (by repeat (first | exact trivial | exact rfl | (refine And.intro ?_ ?_))), rfl, rfl, rfl, rfl, rfl, rfl, trivial⟩, ⟨rfl, rfl, rfl, trivial⟩, rfl, rfl⟩⟩
    rintro ⟨⟨v13, v14, v15⟩, rfl⟩
    refine qn151 _ _ ?_
    refine COk.seqQ fun Q283 qn283 qx283 qr283 => ?_
    refine gor hn ?_
    obtain ⟨r47, hr48, h⟩ := bindM h
    show CallOk Try.prog _ _ _ _
    refine CallOk.lend (tally_Most_ok N v13 a2 r47 hr48) (by repeat (first | exact trivial | exact rfl | (refine And.intro ?_ ?_))) rfl ?_
    refine qn283 _ _ ?_
    refine COk.seqQ fun Q284 qn284 qx284 qr284 => ?_
    refine gor hn ?_
    obtain ⟨r49, hr50, h⟩ := bindM h
    show CallOk Try.prog _ _ _ _
    refine CallOk.lend (tally_Most_ok N v14 a2 r49 hr50) (by repeat (first | exact trivial | exact rfl | (refine And.intro ?_ ?_))) rfl ?_
    refine qn284 _ _ ?_
    refine COk.seqQ fun Q285 qn285 qx285 qr285 => ?_
    obtain ⟨o53, h52, h⟩ := bindM h
    refine COk.joinR (ι := { s : Bool // o53 = s }) (fun s => [(6, .bool s.1)]) (fun s => []) (fun Q286 qn286 qx286 qr286 => ?_) (by intro s; rw [hn]; rfl) ?_
    · refine COk.sub (ts2 := [(5, .ptr 5 0), (7, .own 207), (8, .own 208), (9, .int v15), (12, .int r47.1), (13, .int r47.2), (14, .int r49.1), (15, .int r49.2)]) (os2 := [(5, .box (eSt a2) 24), (207, .row 4 (List.map eTl v13) 27), (208, .row 4 (List.map eTl v14) 27)]) [] ⟨⟨rfl, rfl, rfl, rfl, rfl, rfl, rfl, rfl, trivial⟩, ⟨rfl, rfl, rfl, trivial⟩, rfl, rfl⟩ (by rw [hn]; rfl) ?_
      refine gor hn ?_
      obtain ⟨r54, hr55, h52⟩ := bindM h52
      show CallOk Try.prog _ _ _ _
      refine CallOk.lend (tally_All_ok N v13 a2 r54 hr55) (by repeat (first | exact trivial | exact rfl | (refine And.intro ?_ ?_))) rfl ?_
      refine bselM h52 (fun hb56 h52 => ?_) (fun hb56 h52 => ?_)
      · refine bselT hb56 ?_
        refine bselT hb56 ?_
        obtain ⟨r57, hr58, h52⟩ := bindM h52
        show CallOk Try.prog _ _ _ _
        refine CallOk.lend (tally_All_ok N v14 a2 r57 hr58) (by repeat (first | exact trivial | exact rfl | (refine And.intro ?_ ?_))) rfl ?_
        refine bselT hb56 ?_
        refine bselT hb56 ?_
        refine bselT hb56 ?_
        refine bselM h52 (fun hb59 h52 => ?_) (fun hb59 h52 => ?_)
        · refine bselT hb59 ?_
          refine bselT hb59 ?_
          refine bselT hb59 ?_
          refine bselM h52 (fun hb60 h52 => ?_) (fun hb60 h52 => ?_)
          · refine bselT hb60 ?_
            refine bselT hb60 ?_
            refine bselT hb60 ?_
            refine bselM h52 (fun hb61 h52 => ?_) (fun hb61 h52 => ?_)
            · refine bselT hb61 ?_
              refine bselT hb61 ?_
              refine bselM h52 (fun hb62 h52 => ?_) (fun hb62 h52 => ?_)
              · refine bselT hb62 ?_
                refine bselT hb62 ?_
                refine bselT hb62 ?_
                refine qn286 _ _ ?_
                obtain rfl := Option.some.inj h52
                refine EOk.done ?_
                exact ⟨⟨_, rfl⟩, [], trivial, ⟨⟨rfl, trivial⟩, trivial, rfl, rfl⟩⟩
              · refine bselF hb62 ?_
                refine bselF hb62 ?_
                refine bselF hb62 ?_
                refine qn286 _ _ ?_
                obtain rfl := Option.some.inj h52
                refine EOk.done ?_
                exact ⟨⟨_, rfl⟩, [], trivial, ⟨⟨rfl, trivial⟩, trivial, rfl, rfl⟩⟩
            · refine bselF hb61 ?_
              refine bselF hb61 ?_
              refine qn286 _ _ ?_
              obtain rfl := Option.some.inj h52
              refine EOk.done ?_
              exact ⟨⟨_, rfl⟩, [], trivial, ⟨⟨rfl, trivial⟩, trivial, rfl, rfl⟩⟩
          · refine bselF hb60 ?_
            refine bselF hb60 ?_
            refine bselF hb60 ?_
            refine qn286 _ _ ?_
            obtain rfl := Option.some.inj h52
            refine EOk.done ?_
            exact ⟨⟨_, rfl⟩, [], trivial, ⟨⟨rfl, trivial⟩, trivial, rfl, rfl⟩⟩
        · refine bselF hb59 ?_
          refine bselF hb59 ?_
          refine bselF hb59 ?_
          refine qn286 _ _ ?_
          obtain rfl := Option.some.inj h52
          refine EOk.done ?_
          exact ⟨⟨_, rfl⟩, [], trivial, ⟨⟨rfl, trivial⟩, trivial, rfl, rfl⟩⟩
      · refine bselF hb56 ?_
        refine bselF hb56 ?_
        refine bselF hb56 ?_
        refine bselF hb56 ?_
        refine bselF hb56 ?_
        refine qn286 _ _ ?_
        obtain rfl := Option.some.inj h52
        refine EOk.done ?_
        exact ⟨⟨_, rfl⟩, [], trivial, ⟨⟨rfl, trivial⟩, trivial, rfl, rfl⟩⟩
    rintro ⟨v51, hv_⟩
    replace hv_ := hv_.symm
    subst hv_
    refine qn285 _ _ ?_
    refine got hn ?_
    obtain rfl := Option.some.inj h
    exact ⟨[], _, rfl, (by repeat (first | exact trivial | exact rfl | (refine And.intro ?_ ?_))), trivial, rfl, rfl, rfl, rfl, rfl⟩
end Go.Proofs.Ytioalgofaiideaa
