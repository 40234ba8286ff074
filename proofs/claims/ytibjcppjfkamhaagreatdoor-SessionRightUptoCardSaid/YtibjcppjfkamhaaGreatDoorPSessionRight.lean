import Derived.Test.YtibjcppjfkamhaaGreatDoorCards
import Derived.Test.YtibjcppjfkamhaaGreatDoorTie
import Derived.Deep.DeepHandedRow
import Derived.Deep.DeepWitnessRowRef
import Derived.LaidMore
import Derived.SevenTiedAt
import Derived.LaidHandle
import Derived.Test.YtibjcppjfkamhaaGreatDoorD7
import Derived.Test.YtibjcppjfkamhaaGreatDoorF
namespace Go.Proofs.YtibjcppjfkamhaaGreatDoor
open Go.ChangeShapes Go.WideShapes Go.ChangeAt Go.RowKit Go.Deep
namespace sessionRight
theorem aK : ownKnob Tryz.prog.godebug=none:=C8
theorem readable : ∀t∈Tryz.f8.params.toList,Tryz.prog.readableRec t=true/\t<Tryz.prog.types.size:=by
  have h:(Tryz.f8.params.toList.all fun t=>Tryz.prog.readableRec t && decide (t<Tryz.prog.types.size))=true:=C8;intro t a;have:=List.all_eq_true.1 h t a;simpa using this
theorem met (os:Go.Os):laidMetH Tryz.prog Rows.sessionRightUptoRow.laid ((World.doorLaid Tryz.prog 62 os).forCall (fun _ _=>0) ⟨#[],#[.slice none 0 0],[]⟩).memory :=
  laidMetH_of_parts3 (fuel:=8) (laidMet_of_run' 8 C8 C8) C8 C8
theorem reads (os:Go.Os) {H:Type} (enc:TypeId×Value->H):∃a,DataW.whole enc Tryz.prog ((World.doorLaid Tryz.prog 62 os).forCall (fun _ _=>0) ⟨#[],#[.slice none 0 0],[]⟩).memory Tryz.f8.params.toList Rows.sessionRightSpec.vars false #[Value.slice none 0 0].toList 12=some ([.nil],[],a) :=
  ⟨[],C8⟩
set_option maxRecDepth 100000 in
theorem lifted (os:Go.Os) (a:os.Started) (H:Type) (enc:TypeId×Value->H) (F:Stop.Interp) :
    ReturnsInHanded {} Tryz.checked os 8 .any ((Rows.OpenSpec.upto Rows.sessionRightSpec).preRow enc Tryz.prog Tryz.f8 Rows.sessionRightUptoRow.domain false Rows.sessionRightUptoRow.laid) (((Rows.OpenSpec.upto Rows.sessionRightSpec).at F).post enc Tryz.prog Tryz.f8 false true false false):=by
  obtain⟨l,Y⟩:=reads os enc;refine returnsInHanded_of_row (C:=Tryz.checked) (s:=Rows.OpenSpec.upto Rows.sessionRightSpec) aK a C8 Tryz.func8
    (witness_row_atRef (enc:=enc) (C:=Tryz.checked) false (World.doorLaid Tryz.prog 62 os) #[.slice none 0 0] rfl C8 C8 C8
      (OpenSpec.preRow_of_cond 12 Y C8 (fun k w=>by cases w;kernel_rfl) C8 (met os))) ?_
  intro W base args I gs b f n _ i _ R z _;have Q:jz W:=jz.oS R C8 C8 z;have w:Rows.uptoSmall H (I++gs)=true:=i _ rfl;have c:∀(j:Nat) t v,Tryz.f8.params[j]?=some t->args[j]?=some v->Value.okWide Tryz.prog W .any base t v:=f;have o:=n;have x:∀p∈b,p.block<W.heap.size:=fun p d=>n.lt p d;obtain⟨p,q,h,T,rfl,V,X⟩:=n;have J:DataW.TrodAll enc Tryz.prog W 0 (fun _=>true) true Tryz.f8.params.toList args.toList I p:=h;rw[Tryz.params8] at J c;obtain⟨L,vs0,M,O,p0,q0,r,rfl,rfl,P,Z⟩:=trodAll_cons J;obtain⟨rfl,rfl,rfl⟩:=trodAll_nil Z;obtain rfl:args=#[L]:=by cases args;simp_all
  obtain⟨rfl,rfl⟩:=trodVars_none T;obtain⟨A0,n0,c0,rfl⟩:=okWide_slice Tryz.underlying23 (c 0 23 L rfl rfl);obtain⟨m,u⟩:=P;obtain⟨G,E,_,_,D,g⟩:=Jf.out u;replace g:(eN kJ) G<=Rows.uptoBulk M:=g;have A:=d86 w;simp only[List.append_nil,Rows.uptoBulkAll] at A;have y:w9 (tM W) W #[_].toList [_]:=.cons (Jx E) (.nil);obtain⟨N,S⟩:=GD G D d9;refine(Spec.zI (Ek S) Q y).mono fun e W' ⟨U,K⟩=>?_;subst U;exact⟨_,rfl,Gp (s:=Rows.sessionRightSpec) (pv:=[]) o (fun _ _ _=>(trodAll_cons_mk (shut_bool Tryz.underlying4 _) trodAll_mk0)) (fun sp B=>Al C8 K sp readable h (fun p d=>x p (by first|simpa using Or.inl d|simpa using d)) (fun p d=>B p (by first|simpa using Or.inl d|simpa using d))) (fun _ _=>rfl) rfl
    K (ok_one C8 rfl (okWide_bool_mk Tryz.underlying4 _))⟩
theorem over : Rows.SessionRightUptoSaid :=
  OpenClaim.holds_of_cond 8 Tryz.f8 rfl rfl rfl rfl rfl rfl rfl ⟨rfl,rfl,rfl,rfl,rfl⟩ rfl rfl rfl rfl rfl C8 Tryz.func8 C8
    (of_decide_eq_true C8) (by unfold Func.isWrapper;first|(rw[if_pos (by decide +kernel)];kernel_rfl)|(rw[if_neg (by decide +kernel)];exact⟨rfl,rfl⟩))
    (fun os a H enc _ F=>by rw[OpenClaim.pre_eq_preRow];exact lifted os a H enc F)
theorem plain (f : FuncId) (fn : Func) (d : Tryz.pinned.checked.prog.funcNamed "quickchange/qclaw12.SessionRight" = some f) (b : Tryz.pinned.checked.prog.funcs[f]? = some fn) :
    true=Tryz.pinned.checked.prog.looks []/\∀(j:Nat) t,fn.params[j]?=some t->Tryz.pinned.checked.prog.wantsStandIn t=false:=by
  obtain rfl : f = 8 := Option.some.inj ((show Tryz.prog.funcNamed "quickchange/qclaw12.SessionRight" = some 8 by kernel_rfl).symm.trans d) |>.symm;obtain rfl:fn=Tryz.f8:=(Option.some.inj (Tryz.func8.symm.trans b)).symm;refine ⟨C8,fun j t c=>?_⟩;rw [Tryz.params8] at c;have e:t∈[23]:=by simpa using Array.mem_of_getElem? c
  have a:([23].all fun u=>!Tryz.prog.wantsStandIn u)=true:=C8;exact(show Tryz.prog.wantsStandIn t=false by simpa using List.all_eq_true.1 a t e)
theorem proved : Rows.SessionRightUptoCardSaid :=
  Claim7.holds_tied_plain_at .later [] _ _ _ _ over (fun _ h=>by cases h) C8 (fun _ h=>by cases h) sessionRightUpto_row_tie rfl ⟨rfl,rfl⟩ C8 rfl plain C8
end sessionRight
end Go.Proofs.YtibjcppjfkamhaaGreatDoor
