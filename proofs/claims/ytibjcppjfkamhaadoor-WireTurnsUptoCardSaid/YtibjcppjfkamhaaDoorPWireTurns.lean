import Derived.Test.YtibjcppjfkamhaaDoorCards
import Derived.Test.YtibjcppjfkamhaaDoorTie
import Derived.Deep.DeepHandedRow
import Derived.Deep.DeepWitnessRowRef
import Derived.LaidMore
import Derived.SevenTiedAt
import Derived.LaidHandle
import Derived.Test.YtibjcppjfkamhaaDoorD
import Derived.Test.YtibjcppjfkamhaaDoorE
namespace Go.Proofs.YtibjcppjfkamhaaDoor
open Go.ChangeShapes Go.WideShapes Go.ChangeAt Go.RowKit Go.Deep
namespace wireTurns
theorem aF : ownKnob Tryd.prog.godebug=none:=l8
theorem readable : ∀t∈Tryd.f3.params.toList,Tryd.prog.readableRec t=true/\t<Tryd.prog.types.size:=by
  have h:(Tryd.f3.params.toList.all fun t=>Tryd.prog.readableRec t && decide (t<Tryd.prog.types.size))=true:=l8;intro t a;have:=List.all_eq_true.1 h t a;simpa using this
theorem met (os:Go.Os):laidMetH Tryd.prog Rows.wireTurnsUptoRow.laid ((World.doorLaid Tryd.prog 62 os).forCall (fun _ _=>0) ⟨#[],#[.agg #[.slice none 0 0,.slice none 0 0,.int .i64 0],.slice none 0 0],[]⟩).memory :=
  laidMetH_of_parts3 (fuel:=8) (laidMet_of_run' 8 l8 l8) l8 l8
theorem reads (os:Go.Os) {H:Type} (enc:TypeId×Value->H):∃a,DataW.whole enc Tryd.prog ((World.doorLaid Tryd.prog 62 os).forCall (fun _ _=>0) ⟨#[],#[.agg #[.slice none 0 0,.slice none 0 0,.int .i64 0],.slice none 0 0],[]⟩).memory Tryd.f3.params.toList Rows.wireTurnsSpec.vars false #[Value.agg #[.slice none 0 0,.slice none 0 0,.int .i64 0],.slice none 0 0].toList 12=some ([.agg [.nil,.nil,.lit (.int .i64 0)],.nil],[],a) :=
  ⟨[],l8⟩
set_option maxRecDepth 100000 in
theorem lifted (os:Go.Os) (b:os.Started) (H:Type) (enc:TypeId×Value->H) (F:Stop.Interp) :
    ReturnsInHanded {} Tryd.checked os 3 .any ((Rows.OpenSpec.upto Rows.wireTurnsSpec).preRow enc Tryd.prog Tryd.f3 Rows.wireTurnsUptoRow.domain false Rows.wireTurnsUptoRow.laid) (((Rows.OpenSpec.upto Rows.wireTurnsSpec).at F).post enc Tryd.prog Tryd.f3 false true false false):=by
  obtain⟨n,hx⟩:=reads os enc;refine returnsInHanded_of_row (C:=Tryd.checked) (s:=Rows.OpenSpec.upto Rows.wireTurnsSpec) aF b l8 Tryd.func3
    (witness_row_atRef (enc:=enc) (C:=Tryd.checked) false (World.doorLaid Tryd.prog 62 os) #[.agg #[.slice none 0 0,.slice none 0 0,.int .i64 0],.slice none 0 0] rfl l8 l8 l8
      (OpenSpec.preRow_of_cond 12 hx l8 (fun k A=>by cases A;kernel_rfl) l8 (met os))) ?_
  intro W g args Q gs c f u _ m _ hL E _;have hG:eN W:=eN.gB hL l8 l8 E;have A:Rows.uptoSmall H (Q++gs)=true:=m _ rfl;have a:∀(j:Nat) t v,Tryd.f3.params[j]?=some t->args[j]?=some v->Value.okWide Tryd.prog W .any g t v:=f;have w:=u;have B:∀p∈c,p.block<W.heap.size:=fun p d=>u.lt p d;obtain⟨p,q,l,hV,rfl,hfz,hnd⟩:=u;have R:DataW.TrodAll enc Tryd.prog W 0 (fun _=>true) true Tryd.f3.params.toList args.toList Q p:=l;rw[Tryd.params3] at R a;obtain⟨T,vs0,X,Z,p0,q0,x,rfl,rfl,h0,r0⟩:=trodAll_cons R;obtain⟨U,vs1,Y,ds1,p1,q1,rfl,rfl,rfl,h1,r1⟩:=trodAll_cons r0;obtain⟨rfl,rfl,rfl⟩:=trodAll_nil r1;obtain rfl:args=#[T,U]:=by cases args;simp_all
  obtain⟨rfl,rfl⟩:=trodVars_none hV;obtain⟨V,rfl,_⟩:=okWide_struct Tryd.underlying25 (a 0 25 T rfl rfl);obtain⟨o,y⟩:=h0;obtain⟨O,L,_,_,J,h⟩:=uc.out y;replace h:eZ O<=Rows.uptoBulk X:=h;obtain⟨A1,n1,c1,rfl⟩:=okWide_slice Tryd.underlying26 (a 1 26 U rfl rfl);obtain⟨r,z⟩:=h1;obtain⟨P,M,_,_,K,i⟩:=u5.out z;replace i:(Y6 V8) P<=Rows.uptoBulk Y:=i;have G:=rL A;simp only[List.append_nil,Rows.uptoBulkAll] at G;have D:l6 (j1 W) W #[_,_].toList [_,_]:=.cons (uW L) (.cons (tm M) (.nil));obtain⟨N,hN⟩:=sP O P J K d9;refine(Spec.nG (qj hN) hG D).mono fun e W' ⟨he,S⟩=>?_;subst he;exact⟨_,rfl,sS (s:=Rows.wireTurnsSpec) (pv:=[]) w (fun _ _ _=>(trodAll_cons_mk (shut_bool Tryd.underlying4 _) trodAll_mk0)) (fun sp I=>nd l8 S sp readable l (fun p d=>B p (by first|simpa using Or.inl d|simpa using d)) (fun p d=>I p (by first|simpa using Or.inl d|simpa using d))) (fun _ _=>rfl) rfl
    S (ok_one l8 rfl (okWide_bool_mk Tryd.underlying4 _))⟩
theorem t0 : (Rows.wireTurnsUptoRow.inPlace == Tryd.pinned.checked.prog.inPlace 3)=true:=l8
theorem t1 : (Rows.wireTurnsUptoRow.unfollowed == Tryd.pinned.checked.prog.unfollowed 3)=true:=l8
theorem t2 : (Rows.wireTurnsUptoRow.recurses == Tryd.pinned.checked.prog.recurses 3)=true:=l8
theorem t3 : (Rows.wireTurnsUptoRow.named == Tryd.pinned.checked.prog.varsNamed 3)=true:=l8
theorem closed : joinedFacts Tryd.pinned.checked.prog 3 Tryd.f3 (Rows.OpenSpec.upto Rows.wireTurnsSpec).bare Rows.wireTurnsUptoRow=true:=by
  unfold joinedFacts;rw[t0,t1,t2,t3]
  kernel_rfl
theorem over : Rows.WireTurnsUptoSaid :=
  OpenClaim.holds_of_cond 3 Tryd.f3 rfl rfl rfl rfl rfl rfl rfl ⟨rfl,rfl,rfl,rfl,rfl⟩ rfl rfl rfl rfl rfl l8 Tryd.func3 closed
    (of_decide_eq_true l8) (by unfold Func.isWrapper;first|(rw[if_pos (by decide +kernel)];kernel_rfl)|(rw[if_neg (by decide +kernel)];exact⟨rfl,rfl⟩))
    (fun os a H enc _ F=>by rw[OpenClaim.pre_eq_preRow];exact lifted os a H enc F)
theorem plain (f : FuncId) (fn : Func) (d : Tryd.pinned.checked.prog.funcNamed "quickchange/qclaw4.WireTurns" = some f) (b : Tryd.pinned.checked.prog.funcs[f]? = some fn) :
    true=Tryd.pinned.checked.prog.looks []/\∀(j:Nat) t,fn.params[j]?=some t->Tryd.pinned.checked.prog.wantsStandIn t=false:=by
  obtain rfl : f = 3 := Option.some.inj ((show Tryd.prog.funcNamed "quickchange/qclaw4.WireTurns" = some 3 by kernel_rfl).symm.trans d) |>.symm;obtain rfl:fn=Tryd.f3:=(Option.some.inj (Tryd.func3.symm.trans b)).symm;refine ⟨l8,fun j t c=>?_⟩;rw [Tryd.params3] at c;have e:t∈[25,26]:=by simpa using Array.mem_of_getElem? c
  have a:([25,26].all fun u=>!Tryd.prog.wantsStandIn u)=true:=l8;exact(show Tryd.prog.wantsStandIn t=false by simpa using List.all_eq_true.1 a t e)
theorem proved : Rows.WireTurnsUptoCardSaid :=
  Claim7.holds_tied_plain_at .later [] _ _ _ _ over (fun _ h=>by cases h) l8 (fun _ h=>by cases h) wireTurnsUpto_row_tie rfl ⟨rfl,rfl⟩ l8 rfl plain l8
end wireTurns
end Go.Proofs.YtibjcppjfkamhaaDoor
