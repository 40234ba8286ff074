/- Ghosts on deep rows: a row is taken out, put back; deep rows are frozen, lent. No program in sight, no conditions. -/
import Derived.Test.YtibjcppjfkamhaaGreatDoorIo
namespace Go.Proofs.YtibjcppjfkamhaaGreatDoor
open Go.RowKit
set_option linter.unusedVariables false
section
variable {Γ:V7}
end
section
variable {Γ:V7} {P:Program}
end
section
variable {α:Type} {enc:α→List AV}
end
theorem Gh.drop {Γ:V7} {ts:Ts} {os:Os} (id:Nat) {o:Obj} (hid:lk os id=some o):Gh Γ ts os (fun _:Unit=>ts) (fun _=>(id,.gone)::os) :=
 Gh.of (need:=[(id,o)]) (upd:=fun _=>[(id,.gone)]) (ex:=fun _=>[]) (news:=[]) ⟨hid,trivial⟩ rfl (fun _=>rfl) (fun _=>rfl) fun c w hok _ =>
  ⟨(),c,Post.mk' hok rfl rfl rfl rfl (Nat.le_refl _) (fun _ _ _=>rfl) (fun k _=>⟨rfl,rfl⟩) (fun k o' hl=>by
   obtain ⟨_,rfl⟩:=lk1 hl
   trivial) (fun k o' b hl hf=>by
   obtain ⟨_,rfl⟩:=lk1 hl
   exact hf.elim) (fun k k' o' o2 b hne hl hl' hf hf'=>by
   obtain ⟨_,rfl⟩:=lk1 hl
   exact hf.elim),fun t y h=>by cases h⟩
end Go.Proofs.YtibjcppjfkamhaaGreatDoor
