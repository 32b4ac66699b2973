/- The statement 'CoordPlays' is proved here: whatever the arguments, the law returns true and its arguments read as before. No condition. -/
import Derived.Test.YtljklmlodfbdnaaGreatRows
import Derived.Test.YtljklmlodfbdnaaGreatJ2
import Derived.Test.YtljklmlodfbdnaaGreatJ10
import Derived.Test.YtljklmlodfbdnaaGreatJ11
namespace Go.Proofs.YtljklmlodfbdnaaGreat.coordPlays
open Go Go.E Go.ChangeShapes Go.WideShapes Go.ChangeAt Go.RowKit Go.Proofs.Tryz
set_option linter.unusedVariables false

theorem own:ownKnob prog.godebug=none:=Ac

set_option maxRecDepth 100000 in
theorem lifted (os:Os) (started:os.Started) (H:Type) (enc:TypeId×Value->H) :
    ReturnsInHanded {} Tryz.checked os 3 .any (Rows.coordPlaysSpec.pre6 enc prog Tryz.f3 Rows.coordPlaysRow.domain false) (Rows.coordPlaysSpec.post enc prog Tryz.f3 false true false false):=by
  refine returnsInHanded_of_change_sized (C:=Tryz.checked) own started Ac func3
    (ChangeSpec.witness6 (enc:=enc) (C:=Tryz.checked) false ⟨#[],#[.agg #[.int .i64 0,.bool false,.int .i64 0,.int .i64 0,.int .i64 0,.int .i64 0,.int .i64 0],.int .i64 0,.slice none 0 0],[]⟩ 8 Ac Ac Ac Ac) ?_
  intro W base args ds gs before wW hW hcnd hsz _
  have hval:∀ (j:Nat) t v,Tryz.f3.params[j]? = some t->args[j]? = some v->Value.okWide prog W .any base t v:=wW
  have hW':=hW
  obtain⟨p,q,hA0,hV,rfl,hfz,hnd⟩:=hW
  have hA:DataW.TrodAll enc prog W 0 (fun _=>true) true Tryz.f3.params.toList args.toList ds p:=hA0
  rw[Tryz.params3] at hA hval
  obtain⟨v0,Gd,d0,Gl,p0,q0,hargs,rfl,rfl,h0,r0⟩:=trodAll_cons hA
  obtain⟨v1,BJ,d1,Gk,p1,q1,rfl,rfl,rfl,h1,r1⟩:=trodAll_cons r0
  obtain⟨v2,lx,d2,Gj,p2,q2,rfl,rfl,rfl,h2,r2⟩:=trodAll_cons r1
  obtain⟨rfl,rfl,rfl⟩:=trodAll_nil r2
  obtain rfl:args = #[v0,v1,v2]:=by cases args;simp_all
  obtain⟨rfl,rfl⟩:=trodVars_none hV
  obtain⟨a0,rfl,rfl⟩:=Adz 7 (kS [1]) underlying23 Ac Ac Ac (hval 0 23 v0 rfl rfl) h0
  obtain⟨a1,rfl,rfl,rfl,w1⟩:=open_int underlying3 (hval 1 3 v1 rfl rfl) h1
  have w1:=bounds_i64 w1
  obtain⟨a2,s2,w2,n2⟩:=Yq 33 underlying24 Ac Ac rfl (hval 2 24 v2 rfl rfl) h2
  have n2:=Ag0 hsz (j:=2) (n:=a2.length) 264 rfl rfl underlying24 Ac n2
  clear hA0 wW
  refine Calls.mono (Yn a0 a1 a2 v2 W s2 true (Yo a0 a1 a2)) fun e W' ⟨v,F,he,hs,hv,hF⟩=>?_
  subst hv hF
  subst he
  exact⟨_,rfl,Ad8 Ac hW' rfl rfl Ac underlying4 Ac hs⟩

theorem over:Rows.coordPlaysRow.holds Tryz.pinned (OpenSpec.ofChange Rows.coordPlaysSpec):=
  OpenClaim.holds_of_wide 3 Tryz.f3 rfl rfl rfl rfl rfl rfl rfl ⟨rfl,rfl,rfl,rfl,rfl⟩ rfl rfl rfl rfl rfl Ac func3 Ac
    (of_decide_eq_true (by kernel_rfl)) (by unfold Func.isWrapper;first | (rw[Ae (by decide +kernel)];kernel_rfl) | (rw[Af (by decide +kernel)];exact⟨rfl,rfl⟩))
    (fun os started H enc _=>lifted os started H enc)

theorem proved:Rows.CoordPlaysSaid:=over
#print axioms proved
end Go.Proofs.YtljklmlodfbdnaaGreat.coordPlays
