import Derived.Test.YtibjcppjfkamhaaDoorCards
import Derived.Test.YtibjcppjfkamhaaDoorTie
import Derived.Deep.DeepHandedRow
import Derived.Deep.DeepWitnessRowRef
import Derived.LaidMore
import Derived.SevenTiedAt
import Derived.LaidHandle
import Derived.Test.YtibjcppjfkamhaaDoorD
import Derived.Test.YtibjcppjfkamhaaDoorE
namespace Go.Proofs.YtibjcppjfkamhaaDoor
open Go.ChangeShapes Go.WideShapes Go.ChangeAt Go.RowKit Go.Deep
namespace wireCut
theorem aF : ownKnob Tryd.prog.godebug=none:=l8
theorem readable : ∀t∈Tryd.f4.params.toList,Tryd.prog.readableRec t=true/\t<Tryd.prog.types.size:=by
  have h:(Tryd.f4.params.toList.all fun t=>Tryd.prog.readableRec t && decide (t<Tryd.prog.types.size))=true:=l8;intro t a;have:=List.all_eq_true.1 h t a;simpa using this
theorem met (os:Go.Os):laidMetH Tryd.prog Rows.wireCutUptoRow.laid ((World.doorLaid Tryd.prog 62 os).forCall (fun _ _=>0) ⟨#[],#[.agg #[.slice none 0 0,.slice none 0 0,.int .i64 0],.int .i64 0],[]⟩).memory :=
  laidMetH_of_parts3 (fuel:=8) (laidMet_of_run' 8 l8 l8) l8 l8
theorem reads (os:Go.Os) {H:Type} (enc:TypeId×Value->H):∃a,DataW.whole enc Tryd.prog ((World.doorLaid Tryd.prog 62 os).forCall (fun _ _=>0) ⟨#[],#[.agg #[.slice none 0 0,.slice none 0 0,.int .i64 0],.int .i64 0],[]⟩).memory Tryd.f4.params.toList Rows.wireCutSpec.vars false #[Value.agg #[.slice none 0 0,.slice none 0 0,.int .i64 0],.int .i64 0].toList 12=some ([.agg [.nil,.nil,.lit (.int .i64 0)],.lit (.int .i64 0)],[],a) :=
  ⟨[],l8⟩
set_option maxRecDepth 100000 in
theorem lifted (os:Go.Os) (b:os.Started) (H:Type) (enc:TypeId×Value->H) (F:Stop.Interp) :
    ReturnsInHanded {} Tryd.checked os 4 .any ((Rows.OpenSpec.upto Rows.wireCutSpec).preRow enc Tryd.prog Tryd.f4 Rows.wireCutUptoRow.domain false Rows.wireCutUptoRow.laid) (((Rows.OpenSpec.upto Rows.wireCutSpec).at F).post enc Tryd.prog Tryd.f4 false true false false):=by
  obtain⟨n,hx⟩:=reads os enc;refine returnsInHanded_of_row (C:=Tryd.checked) (s:=Rows.OpenSpec.upto Rows.wireCutSpec) aF b l8 Tryd.func4
    (witness_row_atRef (enc:=enc) (C:=Tryd.checked) false (World.doorLaid Tryd.prog 62 os) #[.agg #[.slice none 0 0,.slice none 0 0,.int .i64 0],.int .i64 0] rfl l8 l8 l8
      (OpenSpec.preRow_of_cond 12 hx l8 (fun k A=>by cases A;kernel_rfl) l8 (met os))) ?_
  intro W g args Q gs c f u _ m _ hL E _;have hG:eE W:=eE.fl hL l8 l8 E;have A:Rows.uptoSmall H (Q++gs)=true:=m _ rfl;have a:∀(j:Nat) t v,Tryd.f4.params[j]?=some t->args[j]?=some v->Value.okWide Tryd.prog W .any g t v:=f;have w:=u;have B:∀p∈c,p.block<W.heap.size:=fun p d=>u.lt p d;obtain⟨p,q,l,hV,rfl,hfz,hnd⟩:=u;have R:DataW.TrodAll enc Tryd.prog W 0 (fun _=>true) true Tryd.f4.params.toList args.toList Q p:=l;rw[Tryd.params4] at R a;obtain⟨T,vs0,X,Z,p0,q0,x,rfl,rfl,h0,r0⟩:=trodAll_cons R;obtain⟨U,vs1,Y,ds1,p1,q1,rfl,rfl,rfl,h1,r1⟩:=trodAll_cons r0;obtain⟨rfl,rfl,rfl⟩:=trodAll_nil r1;obtain rfl:args=#[T,U]:=by cases args;simp_all
  obtain⟨rfl,rfl⟩:=trodVars_none hV;obtain⟨V,rfl,_⟩:=okWide_struct Tryd.underlying25 (a 0 25 T rfl rfl);obtain⟨o,y⟩:=h0;obtain⟨O,L,_,_,J,h⟩:=tO.out y;replace h:eQ O<=Rows.uptoBulk X:=h;obtain⟨n1,rfl⟩:=okWide_int Tryd.underlying3 (a 1 3 U rfl rfl);obtain⟨r,z⟩:=h1;obtain⟨P,M,_,_,K,i⟩:=(y9.int Tryd.underlying3).out z;replace i:V6 P<=Rows.uptoBulk Y:=i;have G:=qd A;simp only[List.append_nil,Rows.uptoBulkAll] at G;have D:l6 (ia W) W #[_,_].toList [_,_]:=.cons (ta L) (.cons (tT M) (.nil));obtain⟨N,hN⟩:=sL O P J K d9;refine(Spec.mm (qB hN) hG D).mono fun e W' ⟨he,S⟩=>?_;subst he;exact⟨_,rfl,s8 (s:=Rows.wireCutSpec) (pv:=[]) w (fun _ _ _=>(trodAll_cons_mk (shut_bool Tryd.underlying4 _) trodAll_mk0)) (fun sp I=>nH l8 S sp readable l (fun p d=>B p (by first|simpa using Or.inl d|simpa using d)) (fun p d=>I p (by first|simpa using Or.inl d|simpa using d))) (fun _ _=>rfl) rfl
    S (ok_one l8 rfl (okWide_bool_mk Tryd.underlying4 _))⟩
theorem t0 : (Rows.wireCutUptoRow.inPlace == Tryd.pinned.checked.prog.inPlace 4)=true:=l8
theorem t1 : (Rows.wireCutUptoRow.unfollowed == Tryd.pinned.checked.prog.unfollowed 4)=true:=l8
theorem t2 : (Rows.wireCutUptoRow.recurses == Tryd.pinned.checked.prog.recurses 4)=true:=l8
theorem t3 : (Rows.wireCutUptoRow.named == Tryd.pinned.checked.prog.varsNamed 4)=true:=l8
theorem closed : joinedFacts Tryd.pinned.checked.prog 4 Tryd.f4 (Rows.OpenSpec.upto Rows.wireCutSpec).bare Rows.wireCutUptoRow=true:=by
  unfold joinedFacts;rw[t0,t1,t2,t3]
  kernel_rfl
theorem over : Rows.WireCutUptoSaid :=
  OpenClaim.holds_of_cond 4 Tryd.f4 rfl rfl rfl rfl rfl rfl rfl ⟨rfl,rfl,rfl,rfl,rfl⟩ rfl rfl rfl rfl rfl l8 Tryd.func4 closed
    (of_decide_eq_true l8) (by unfold Func.isWrapper;first|(rw[if_pos (by decide +kernel)];kernel_rfl)|(rw[if_neg (by decide +kernel)];exact⟨rfl,rfl⟩))
    (fun os a H enc _ F=>by rw[OpenClaim.pre_eq_preRow];exact lifted os a H enc F)
theorem plain (f : FuncId) (fn : Func) (d : Tryd.pinned.checked.prog.funcNamed "quickchange/qclaw4.WireCut" = some f) (b : Tryd.pinned.checked.prog.funcs[f]? = some fn) :
    true=Tryd.pinned.checked.prog.looks []/\∀(j:Nat) t,fn.params[j]?=some t->Tryd.pinned.checked.prog.wantsStandIn t=false:=by
  obtain rfl : f = 4 := Option.some.inj ((show Tryd.prog.funcNamed "quickchange/qclaw4.WireCut" = some 4 by kernel_rfl).symm.trans d) |>.symm;obtain rfl:fn=Tryd.f4:=(Option.some.inj (Tryd.func4.symm.trans b)).symm;refine ⟨l8,fun j t c=>?_⟩;rw [Tryd.params4] at c;have e:t∈[25,3]:=by simpa using Array.mem_of_getElem? c
  have a:([25,3].all fun u=>!Tryd.prog.wantsStandIn u)=true:=l8;exact(show Tryd.prog.wantsStandIn t=false by simpa using List.all_eq_true.1 a t e)
theorem proved : Rows.WireCutUptoCardSaid :=
  Claim7.holds_tied_plain_at .later [] _ _ _ _ over (fun _ h=>by cases h) l8 (fun _ h=>by cases h) wireCutUpto_row_tie rfl ⟨rfl,rfl⟩ l8 rfl plain l8
end wireCut
end Go.Proofs.YtibjcppjfkamhaaDoor
