/- Part 7 of the proof. -/
import Derived.Test.YtljklmlodfbdnaaGreatRows
import Derived.Test.YtljklmlodfbdnaaGreatJ2
import Derived.WalkKit
import Derived.LaidEql
import Derived.Stop.Asserts
import Derived.RowKitTokens
import Derived.Lib.Hide
import Derived.Test.YtljklmlodfbdnaaGreatJ3
import Derived.Test.YtljklmlodfbdnaaGreatJ6
import Derived.Test.YtljklmlodfbdnaaGreatJ4
set_option maxHeartbeats 1000000
set_option maxRecDepth 100000
set_option linter.unusedVariables false
set_option linter.unusedSimpArgs false
set_option linter.unusedSectionVars false
set_option linter.unnecessarySimpa false
namespace Go.Proofs.YtljklmlodfbdnaaGreat
open Go Go.E Go.RowKit Go.Extern.Stop Go.Stop Go.Extern Go.Proofs.Tryz
theorem Pe {P:Program} (w:World) (d:Nat) {ti tn:TypeId} {ms:Array (String×TypeId)} {i:TypeInfo} {k:IntKind} (a b:Int) (hi:P.underlying ti=some (.interface ms)) (hn:P.underlying tn=some (.int k)) (hinfo:P.info? tn=some i) (hcomp:i.comparable=true) :
  (Op.equalIn (d+2) ti (.iface tn (.int k a)) (.iface tn (.int k b))).run P w=.ok (a == b) w:=by
 simp[Op.equalIn,run_underlying hi,run_underlying hn,typeInfo,hinfo,hcomp]
theorem Np {P:Program} (w:World) {ti tn:TypeId} {ms:Array (String×TypeId)} {i:TypeInfo} {k:IntKind} (a b:Int) (hi:P.underlying ti=some (.interface ms)) (hn:P.underlying tn=some (.int k)) (hinfo:P.info? tn=some i) (hcomp:i.comparable=true) :
  (binOp .eql ti (.iface tn (.int k a)) (.iface tn (.int k b))).run P w=.ok (.bool (a == b)) w:=by
 simp only[binOp]
 simp[Op.equal,Op.maxDepth,Pe w 9998 a b hi hn hinfo hcomp]
theorem Aeo (v:Value) (w:World):(Extern.ReflectliteType.typeOf #[.iface 86 v]).run prog w=.ok (.iface 182 (.agg #[.pointer (some ⟨0,86,none⟩)])) w:=Ac
def Ags : Array Value → Sem Value := Extern.ReflectliteType.method fun t => do Rtype.noPackHeld "Comparable" t; pure (.bool (← typeInfo t).comparable)
theorem Xp (w:World):(Ags #[.agg #[.pointer (some ⟨0,86,none⟩)]]).run prog w=.ok (.bool true) w:=Ac
theorem Q2 (v : Value) (w : World) : (Go.method 371 182 v "Comparable").run prog w = .ok (197, v) w := Ac
theorem Ahf:(prog.info? 86).map (·.comparable)=some true:=Ac
theorem AhW (v:Value) (xT:TypeId) (w:World):(Instr.typeAssert (.iface 86 v) xT 184 true).run prog w=.ok (.tuple #[.nilIface,.bool false]) w:=run_typeAssert_lacksB underlying184 Ac Ac v xT w
theorem Ace (v:Value) (xT:TypeId) (w:World):(Instr.typeAssert (.iface 86 v) xT 187 true).run prog w=.ok (.tuple #[.nilIface,.bool false]) w:=run_typeAssert_lacksB underlying187 Ac Ac v xT w
theorem ZM (v:Value) (xT:TypeId) (w:World):(Instr.typeAssert (.iface 86 v) xT 189 true).run prog w=.ok (.tuple #[.nilIface,.bool false]) w:=run_typeAssert_lacksB underlying189 Ac Ac v xT w
theorem Aen (a b:Int) (w:World):Calls prog 33 #[.iface 86 (.int .i64 a),.iface 86 (.int .i64 b)] w fun e w'=>e=.returned (.bool (decide (a=b)))/\w'=w:=by
 obtain⟨i,hi,hcmp⟩:=Option.map_eq_some_iff.1 Ahf
 have h8:=@run_callFunc_extern prog 70 _ Extern.ReflectliteType.typeOf func70 Ac Ac Ac Ac
 have Gh:=@run_callFunc_extern prog 197 _ Ags func197 Ac Ac Ac Ac
 have tT:=Aeo
 have cT:=Xp
 have mR:=Q2
 have nE:=AhW
 have uE:=Ace
 have vE:=ZM
 by_cases hab:a=b
 .subst hab
  have heq:=Np (P:=prog) w a a underlying28 underlying86 hi hcmp
  rw[show(a == a)=true from by simp] at heq
  go_enter func33,ntmps33
  go_wp2
  refine wp_loop_rounds 1 ?_
  rw[rounds_succ]
  go_wp2
  go_ret
  exact⟨Ad,rfl⟩
 .have heq:=Np (P:=prog) w a b underlying28 underlying86 hi hcmp
  rw[show(a == b)=false from by simpa using hab] at heq
  have hd:decide (a=b)=false:=by simpa using hab
  rw[hd]
  have H:Hid (¬ a=b):=Lib.hid hab
  clear hab hd
  go_enter func33,ntmps33
  go_wp2
  refine wp_loop_rounds 1 ?_
  rw[rounds_succ]
  go_wp2
  go_ret
  exact⟨rfl,rfl⟩
theorem Ahe (b:Int) (w:World):Calls prog 33 #[.nilIface,.iface 86 (.int .i64 b)] w fun e w'=>e=.returned (.bool false)/\w'=w:=by
 have hn:=run_eql_iface_nil_left (P:=prog) w 86 (.int .i64 b) underlying28
 go_enter func33,ntmps33
 go_wp2
 go_ret
 exact⟨rfl,rfl⟩
theorem R9 {P:Program} {f:FuncId} {args:Array Value} {w:World} {v:Value} (h:Calls P f args w fun e w'=>e=.returned v/\w'=w):Con P f args w (Is v []):=
 Calls.mono h fun e w' ⟨h1,h2⟩=>⟨v,[],h1,by rw[h2];exact St.refl w,rfl,rfl⟩
theorem AfJ (a b:Int) (w:World) (hb:b≠0):Con prog 33 #[I8 86 a,I8 86 b] w (Is (.bool (decide (a=b))) []):=by
 rw[show I8 86 b=.iface 86 (.int .i64 b) from Af hb]
 by_cases ha:a=0
 .subst ha
  rw[show I8 86 0=.nilIface from rfl,show decide ((0:Int)=b)=false from by simpa using fun e=>hb e.symm]
  exact R9 (Ahe b w)
 .rw[show I8 86 a=.iface 86 (.int .i64 a) from Af ha]
  exact R9 (Aen a b w)
end Go.Proofs.YtljklmlodfbdnaaGreat
namespace Go.Proofs.YtljklmlodfbdnaaGreat
open Go Go.E Go.Proofs.Tryz
theorem Vs {a:Int} (b:Int) (w:World) (h:LD a b):Con prog 33 #[I8 86 a,I8 86 b] w (Is (.bool (LF a b)) []):=AfJ a b w h
theorem HR (e0 w) (r) (h:XI e0 r):Con prog 13 #[I8 86 e0] w (Is (iI r) []):=by
  unfold XI at h
  refine ce func13 Y ntmps13 Y (wS (va Y (nY (wS (vm Y (xQ Y (UR underlying28 Y (fun _=>Y) Y Y) (nS (wd Y h (fun bB h=>?_) fun bB h=>?_))))))))
  . refine wS (va Y (nU ?_))
    subst h
    exact rO results13 Y (⟨Y,Y⟩)
  . refine jS (wS (va Y (nS (Gz ?_))))
    obtain⟨x1,fq,h⟩:=h
    refine xL (fun(i3:Int) e H=>e=[(0,I8 86 e0),(3,iI i3)]/\H=[]) (fun x ex e H=>match x with | .inl _=>ex = .exit 0/\e=[]/\H=[] | .inr x2=>ex = .ret/\e=[(2,iI x2)]/\H=[]) fq ⟨Y,Y⟩ ?_ ?_
    . rintro i3 o _ _ ⟨rfl,rfl⟩ hb
      have h:Mk e0 i3 o:=hb
      clear hb
      unfold Mk at h
      refine Gu (wS (vm Y (xQ Y (J1 Y Y) (nS (wd Y h (fun bA h=>?_) fun bA h=>?_)))))
      . refine jS (Gz (wS (vm Y (vm Y ?_))))
        obtain⟨fX,h⟩:=h
        refine xQ Y (AhT Y underlying86 Y fX) ?_
        obtain⟨el,h⟩:=h
        refine xc Y Ahb Y (fun w1 br=>Vs _ w1 el) (nS (wb Y h (fun dU h=>?_) fun dU h=>?_))
        . exact wS (vm Y (va Y (nV (GB (Gx (xO h ⟨Y,Y,Y⟩))))))
        . refine GY (GZ 1 (Gt (Gr (vm Y ?_))))
          obtain⟨eX,h⟩:=h
          exact xQ Y (Hk Y Y Y eX) (va Y (Gw (xN h ⟨Y,Y⟩)))
      . exact GJ (Gs (xO h ⟨Y,Y,Y⟩))
    . rcases x1 with _ | x2
      . rintro _ _ _ ⟨rfl,rfl,rfl⟩
        replace h:VA r:=h
        unfold VA at h
        refine GD (qW (va Y (nV ?_)))
        subst h
        exact rO results13 Y (⟨Y,Y⟩)
      rintro _ _ _ ⟨rfl,rfl,rfl⟩
      replace h:Vz x2 r:=h
      unfold Vz at h
      refine GB (Gx ?_)
      subst h
      exact rO results13 Y (⟨Y,Y⟩)
end Go.Proofs.YtljklmlodfbdnaaGreat
namespace Go.Proofs.YtljklmlodfbdnaaGreat
open Go Go.E Go.Shelf Go.Proofs.Tryz
def Ai5:Ren:=⟨fun x=>match x with | 5=>112 | 7=>146 | 8=>147 | 10=>158 | 11=>159 | 12=>160 | 13=>161 | 14=>162 | 15=>163 | 16=>152 | 17=>164 | 18=>165 | 19=>166 | 20=>167 | 30=>171 | 31=>172 | 32=>173 | 33=>174 | 34=>175 | 35=>169 | 40=>177 | n=>n,fun x=>match x with | 0=>0 | 3=>3 | 4=>4 | 5=>5 | 9=>9 | 22=>59 | 23=>59 | 25=>3 | 32=>211 | 35=>219 | 36=>220 | 41=>200 | 44=>226 | 46=>228 | 53=>230 | 57=>234 | 63=>236 | 64=>93 | n=>n,fun x=>x⟩
theorem AhX:SlLaysM.n5 prog Ai5 where
 mixed:=Ac
 f5:=⟨Tryz.f112.name,Ac,func112.trans (congrArg some Ac)⟩
 f7:=⟨Tryz.f146.name,Ac,func146.trans (congrArg some Ac)⟩
 f8:=func147.trans (congrArg some Ac)
 f10:=⟨Tryz.f158.name,Ac,func158.trans (congrArg some Ac)⟩
 f11:=⟨Tryz.f159.name,Ac,func159.trans (congrArg some Ac)⟩
 f12:=⟨Tryz.f160.name,Ac,func160.trans (congrArg some Ac)⟩
 f13:=⟨Tryz.f161.name,Ac,func161.trans (congrArg some Ac)⟩
 f14:=⟨Tryz.f162.name,Ac,func162.trans (congrArg some Ac)⟩
 f15:=⟨Tryz.f163.name,Ac,func163.trans (congrArg some Ac)⟩
 f16:=⟨Tryz.f152.name,Ac,func152.trans (congrArg some Ac)⟩
 f17:=⟨Tryz.f164.name,Ac,func164.trans (congrArg some Ac)⟩
 f18:=⟨Tryz.f165.name,Ac,func165.trans (congrArg some Ac)⟩
 f19:=func166.trans (congrArg some Ac)
 f20:=func167.trans (congrArg some Ac)
 f30:=⟨Tryz.f171.name,Ac,func171.trans (congrArg some Ac)⟩
 f31:=func172.trans (congrArg some Ac)
 f32:=func173.trans (congrArg some Ac)
 f33:=⟨Tryz.f174.name,Ac,func174.trans (congrArg some Ac)⟩
 f34:=⟨Tryz.f175.name,Ac,func175.trans (congrArg some Ac)⟩
 f35:=⟨Tryz.f169.name,Ac,func169.trans (congrArg some Ac)⟩
 f40:=⟨Tryz.f177.name,Ac,func177.trans (congrArg some Ac)⟩
 t0:=underlying0
 a0:=Tryz.isAgg0
 z0:=Tryz.sizeOf0
 v0:=Tryz.zeroValue0
 t3:=underlying3
 a3:=Tryz.isAgg3
 z3:=Tryz.sizeOf3
 v3:=Tryz.zeroValue3
 t4:=underlying4
 a4:=Tryz.isAgg4
 z4:=Tryz.sizeOf4
 v4:=Tryz.zeroValue4
 t5:=underlying5
 a5:=Tryz.isAgg5
 z5:=Tryz.sizeOf5
 v5:=Tryz.zeroValue5
 t9:=underlying9
 a9:=Tryz.isAgg9
 z9:=Tryz.sizeOf9
 v9:=Tryz.zeroValue9
 t22:=underlying59
 a22:=Tryz.isAgg59
 z22:=Tryz.sizeOf59
 v22:=Tryz.zeroValue59
 t23:=underlying59
 a23:=Tryz.isAgg59
 z23:=Tryz.sizeOf59
 v23:=Tryz.zeroValue59
 t25:=underlying3
 a25:=Tryz.isAgg3
 z25:=Tryz.sizeOf3
 v25:=Tryz.zeroValue3
 t32:=underlying211
 a32:=Tryz.isAgg211
 z32:=Tryz.sizeOf211
 v32:=Tryz.zeroValue211
 t35:=underlying219
 a35:=Tryz.isAgg219
 z35:=Tryz.sizeOf219
 v35:=Tryz.zeroValue219
 t36:=underlying220
 a36:=Tryz.isAgg220
 z36:=Tryz.sizeOf220
 v36:=Tryz.zeroValue220
 t41:=underlying200
 a41:=Tryz.isAgg200
 z41:=Tryz.sizeOf200
 v41:=Tryz.zeroValue200
 t44:=underlying226
 a44:=Tryz.isAgg226
 z44:=Tryz.sizeOf226
 v44:=Tryz.zeroValue226
 t46:=underlying228
 a46:=Tryz.isAgg228
 z46:=Tryz.sizeOf228
 v46:=Tryz.zeroValue228
 t53:=underlying230
 a53:=Tryz.isAgg230
 z53:=Tryz.sizeOf230
 v53:=Tryz.zeroValue230
 t57:=underlying234
 a57:=Tryz.isAgg234
 z57:=Tryz.sizeOf234
 v57:=Tryz.zeroValue234
 t63:=underlying236
 a63:=Tryz.isAgg236
 z63:=Tryz.sizeOf236
 v63:=Tryz.zeroValue236
 t64:=underlying93
 a64:=Tryz.isAgg93
 z64:=Tryz.sizeOf93
 v64:=Tryz.zeroValue93
theorem enO:Enters prog 112:=enters_of func112 Ac rfl
theorem AgG {w:World} {v:Value} {B:GH} {T:TypeId} {l:List Int} (hJ:OJ T 1 ic B v l) (hB:Has w (cat [B])) (hl:Pp l) :
  Con prog 112 #[v] w (IF fun u Ls=>Cov w (cat [B]) (cat Ls)/\u=.tuple #[]/\∃ C,Ls=[C]/\OJ T 1 ic C v (Yc l)/\Cov w B C):=AcD AhX hJ hB hl
def Ads:Ren:=⟨fun x=>match x with | 6=>90 | 7=>91 | 8=>131 | 9=>112 | 10=>132 | 11=>151 | n=>n,fun x=>match x with | 0=>0 | 3=>62 | 4=>4 | 23=>82 | 24=>59 | 26=>3 | 27=>155 | 28=>156 | 33=>123 | n=>n,fun x=>x⟩
theorem Afz:SlLaysZI.n10 prog Ads where
 mixed:=Ac
 f10:=⟨Tryz.f132.name,Ac,func132.trans (congrArg some Ac)⟩
 t0:=underlying0
 a0:=Tryz.isAgg0
 z0:=Tryz.sizeOf0
 v0:=Tryz.zeroValue0
 t4:=underlying4
 a4:=Tryz.isAgg4
 z4:=Tryz.sizeOf4
 v4:=Tryz.zeroValue4
 t23:=underlying82
 a23:=Tryz.isAgg82
 z23:=Tryz.sizeOf82
 v23:=Tryz.zeroValue82
 t26:=underlying3
 a26:=Tryz.isAgg3
 z26:=Tryz.sizeOf3
 v26:=Tryz.zeroValue3
 t33:=underlying123
 a33:=Tryz.isAgg123
 z33:=Tryz.sizeOf123
 v33:=Tryz.zeroValue123
theorem Afy:SlLaysZI.n6 prog Ads where
 mixed:=Ac
 f6:=⟨Tryz.f90.name,Ac,func90.trans (congrArg some Ac)⟩
 f8:=⟨Tryz.f131.name,Ac,func131.trans (congrArg some Ac)⟩
 f11:=⟨Tryz.f151.name,Ac,func151.trans (congrArg some Ac)⟩
 t0:=underlying0
 a0:=Tryz.isAgg0
 z0:=Tryz.sizeOf0
 v0:=Tryz.zeroValue0
 t24:=underlying59
 a24:=Tryz.isAgg59
 z24:=Tryz.sizeOf59
 v24:=Tryz.zeroValue59
 t26:=underlying3
 a26:=Tryz.isAgg3
 z26:=Tryz.sizeOf3
 v26:=Tryz.zeroValue3
 t28:=underlying156
 a28:=Tryz.isAgg156
 z28:=Tryz.sizeOf156
 v28:=Tryz.zeroValue156
 i26:=Ac
theorem Afh {α:Type} {cv:α->Value} {w:World} {Bm:Nat} {T:TypeId} {v:Value} {B:GH} {d:List (Int×α)} (hm:w.heap[Bm]? = some (BK 1 (fun _=>v) T)) (hJ:MJ kI cv HT B v d) (hB:∀ x∈B,w.heap[x.1]? = some x.2) (hP:NC d) :
  Con prog 90 #[.func (.func 132) [].toArray [.pointer (some ⟨Bm,0,none⟩)].toArray] w (fun v F=>∃ (u:Value) (C:GH),v=u/\F=(C++[])/\OJ 3 1 ic C u (Hu d)/\Cov w [] C):=
 TW Afz Afy AhX rfl enO (enters_of func132 Ac rfl) hm hJ hB hP
def Ai6:Ren:=⟨fun x=>match x with | 21=>134 | 27=>154 | 28=>155 | 35=>170 | 39=>176 | n=>n,fun x=>match x with | 0=>0 | 3=>3 | 4=>4 | 22=>59 | n=>n,fun x=>x⟩
theorem Ag1:Lays2.n21 prog Ai6 where
 mixed:=Ac
 f21:=func134.trans (congrArg some Ac)
 f27:=func154.trans (congrArg some Ac)
 f28:=func155.trans (congrArg some Ac)
 f35:=func170.trans (congrArg some Ac)
 f39:=func176.trans (congrArg some Ac)
 t0:=underlying0
 a0:=Tryz.isAgg0
 z0:=Tryz.sizeOf0
 v0:=Tryz.zeroValue0
 t3:=underlying3
 a3:=Tryz.isAgg3
 z3:=Tryz.sizeOf3
 v3:=Tryz.zeroValue3
 t4:=underlying4
 a4:=Tryz.isAgg4
 z4:=Tryz.sizeOf4
 v4:=Tryz.zeroValue4
 t22:=underlying59
 a22:=Tryz.isAgg59
 z22:=Tryz.sizeOf59
 v22:=Tryz.zeroValue59
 i3:=Ac
end Go.Proofs.YtljklmlodfbdnaaGreat
namespace Go.Proofs.YtljklmlodfbdnaaGreat
open Go Go.E Go.Proofs.Tryz
theorem Jm {s0 v0} (w) (dK:SL w 1 ic v0 s0) (r) (h:VB s0 r):Con prog 42 #[v0] w (fun v F=>∃ (u0:Value) (C0:GH),v=u0/\F=(C0++[])/\OJ 3 1 ic C0 u0 r/\Cov w [] C0):=by
 unfold VB at h;refine ce func42 Y ntmps42 Y (wS (va Y (nY (wS (vm Y ?_)))));rcases SL.nilOr dK with ⟨hn,hl⟩ | hn
 .replace h:=h.1 hl;refine xQ Y (HP underlying59 Y Y (hn.2 _) hn.1) (nS (GQ Y Y (wS (va Y (nU ?_)))));subst h
  exact rO results42 Y (⟨_,[],Y,Y,OJ.nil,Cov.refl _⟩)
 .replace h:=h.2;refine xQ Y (HP underlying59 Y Y (hn.2 _) hn.1) (nS (GW Y Y (jW (xr Y (Ho HY VU (HD Y) Y Y (.nil _)) ?_))));rintro _ _ ⟨b5,pt,rfl,rfl⟩;refine vm Y ?_;obtain⟨d3,h⟩:=h;refine xr Y (OT.st (fun _ h=>Pull.st qK h) (Hj (l:=[]) (l':=s0) (B:=[_]) Ri Y Y (LR 0 (l:=[]) mH Y Y (fun i hi=>match i,hi with  | q+0,h=>absurd h U)) (fun w2 cC=>(dK.keep cC FR)) (fun _ _=>Y) d3 (G2 d3 D))) ?_;rintro BJ _ ⟨y2,rfl,qN,rk⟩;have lS:=Cov.trans (Cov.new pt) qN
  refine va Y (nV ?_);subst h
  exact rO results42 Y (⟨_,y2,Y,Y,rk,lS⟩)
theorem VC {s0 v0} (w) (dK:SL w 5 iv v0 s0) (r) (h:VD s0 r):Con prog 43 #[v0] w (fun v F=>∃ (u0:Value) (C0:GH),v=u0/\F=(C0++[])/\OJ 104 5 iv C0 u0 r/\Cov w [] C0):=by
 unfold VD at h;refine ce func43 Y ntmps43 Y (wS (va Y (nY (wS (vm Y ?_)))));rcases SL.nilOr dK with ⟨hn,hl⟩ | hn
 .replace h:=h.1 hl;refine xQ Y (HP underlying60 Y Y (hn.2 _) hn.1) (nS (GQ Y Y (wS (va Y (nU ?_)))));subst h
  exact rO results43 Y (⟨_,[],Y,Y,OJ.nil,Cov.refl _⟩)
 .replace h:=h.2;refine xQ Y (HP underlying60 Y Y (hn.2 _) hn.1) (nS (GW Y Y (jW (xr Y (Ho XG Ro Y Y Y (.nil _)) ?_))));rintro _ _ ⟨b5,pt,rfl,rfl⟩;refine vm Y ?_;obtain⟨d3,h⟩:=h;refine xr Y (OT.st (fun _ h=>Pull.st qK h) (Hj (l:=[]) (l':=s0) (B:=[_]) Y6 Y Y (LR 0 (l:=[]) mH Y Y (fun i hi=>match i,hi with  | q+0,h=>absurd h U)) (fun w2 cC=>(dK.keep cC FR)) (fun _ _=>Y) d3 (G2 d3 D))) ?_;rintro BJ _ ⟨y2,rfl,qN,rk⟩;have lS:=Cov.trans (Cov.new pt) qN
  refine va Y (nV ?_);subst h
  exact rO results43 Y (⟨_,y2,Y,Y,rk,lS⟩)
theorem VE {s0 v0} (w) (dK:SL w 7 iv v0 s0) (r) (h:VF s0 r):Con prog 40 #[v0] w (fun v F=>∃ (u0:Value) (C0:GH),v=u0/\F=(C0++[])/\OJ 65 7 iv C0 u0 r/\Cov w [] C0):=by
 unfold VF at h;refine ce func40 Y ntmps40 Y (wS (va Y (nY (wS (vm Y ?_)))));rcases SL.nilOr dK with ⟨hn,hl⟩ | hn
 .replace h:=h.1 hl;refine xQ Y (HP underlying54 Y Y (hn.2 _) hn.1) (nS (GQ Y Y (wS (va Y (nU ?_)))));subst h
  exact rO results40 Y (⟨_,[],Y,Y,OJ.nil,Cov.refl _⟩)
 .replace h:=h.2;refine xQ Y (HP underlying54 Y Y (hn.2 _) hn.1) (nS (GW Y Y (jW (xr Y (Ho M8 IR Y Y Y (.nil _)) ?_))));rintro _ _ ⟨b5,pt,rfl,rfl⟩;refine vm Y ?_;obtain⟨d3,h⟩:=h;refine xr Y (OT.st (fun _ h=>Pull.st qK h) (Hj (l:=[]) (l':=s0) (B:=[_]) NK Y Y (LR 0 (l:=[]) mH Y Y (fun i hi=>match i,hi with  | q+0,h=>absurd h U)) (fun w2 cC=>(dK.keep cC FR)) (fun _ _=>Y) d3 (G2 d3 D))) ?_;rintro BJ _ ⟨y2,rfl,qN,rk⟩;have lS:=Cov.trans (Cov.new pt) qN
  refine va Y (nV ?_);subst h
  exact rO results40 Y (⟨_,y2,Y,Y,rk,lS⟩)
theorem V8 {ah ab aa ai ae ac ad af ag aj ak al dJ za zb zc} (w) (ci:SL w 1 ic dJ ag) (bV:SL w 1 ic za aj) (bU:SL w 1 ic zb ak) (bY:SL w 5 iv zc al) (r) (h:WP ah ab aa ai ae ac ad af ag aj ak al r):Con prog 95 #[AG 13 (cl (An ah ab aa ai (ae) ac ad af dJ za zb zc))] w (Is (I8 86 r) []):=by
 unfold WP at h;refine ce func95 Y ntmps95 Y (wS (xr Y (HA (An ah ab aa ai (ae) ac ad af dJ za zb zc) Y H9) ?_));rintro _ _ ⟨b1,ko,rfl,rfl⟩;refine va Y (nY (Gz (wS (Xf Jj Y Y (Xi ab GF Y Y (xQ Y (Hr Y Y) (va Y (nS (wn Y h (fun bB h=>?_) fun bB h=>?_)))))))))
 .refine wS (xQ Y (HE Y underlying86 Y) (va Y (nV (GB (Gx ?_)))));subst h
  exact yA results95 Y [] KP (⟨Y,Y⟩)
 .refine wS (Xf Lu Y Y (Xl (.bool (ae)) Om Y Y (va Y (nS (wb Y h (fun bA h=>?_) fun bA h=>?_)))))
  .refine wS (xQ Y (HE Y underlying86 Y) (va Y (nV (GB (Gx ?_)))));subst h
   exact yA results95 Y [] KP (⟨Y,Y⟩)
  .refine GY (GZ 0 (qW (va Y (nV ?_))));subst h
   exact yA results95 Y [] KP (⟨Y,Y⟩)
theorem Sx {ah ab aa ai ae ac ad af ag aj ak al dJ za zb zc} (w) (ci:SL w 1 ic dJ ag) (bV:SL w 1 ic za aj) (bU:SL w 1 ic zb ak) (bY:SL w 5 iv zc al) (r) (h:WN ah ab aa ai ae ac ad af ag aj ak al r):Con prog 97 #[AG 13 (cl (An ah ab aa ai (ae) ac ad af dJ za zb zc))] w (Is (AI 28 r) []):=by
 unfold WN at h;refine ce func97 Y ntmps97 Y (wS (xr Y (HA (An ah ab aa ai (ae) ac ad af dJ za zb zc) Y H9) ?_));rintro _ _ ⟨b1,ko,rfl,rfl⟩;refine xr Y (H8 Lf Y) ?_;rintro _ _ ⟨b2,j5,rfl,rfl⟩;refine nR (Xf Vp Y Y (Xi ac GF Y Y (Xf Jk Y Y (Xi ah GF Y Y (Xf PQ Y Y (Xi ai GF Y Y (Xf Tm Y Y (xQ Y (Nv (f:=iv ad) Y I4 (mT mH) D AJ) (Xf Aaa Y Y (Xi af NA Y Y ?_))))))))));refine xQ Y (Ht XC Lf (.int G9 Y Y (.int Jz Y Y (.int HG Y Y (.int K9 Y Y (.ints Ky Y Y (.int J4 Y Y (.nil _)))))))) (xZ Y (JF Y Y Hm mH uH) (nV ?_));subst h
 exact cRa results97 Y Hm mH [] KP (⟨Y,Y⟩)
theorem Ru {ah ab aa ai ae ac ad af ag aj ak al cI fb eL dJ za zb zc v3} (w) (ci:SL w 1 ic dJ ag) (bV:SL w 1 ic za aj) (bU:SL w 1 ic zb ak) (bY:SL w 5 iv zc al) (zO:SL w 1 ic v3 eL) (r) (h:AaK ah ab aa ai ae ac ad af ag aj ak al cI fb eL r):Con prog 100 #[AG 13 (cl (An ah ab aa ai (ae) ac ad af dJ za zb zc)),iI cI,iI fb,v3] w (fun v F=>∃ (u0:Value) (C0:GH),v=u0/\F=(C0++[])/\OJ 45 28 iv C0 u0 r/\Cov w [] C0):=by
 unfold AaK at h;refine ce func100 Y ntmps100 Y (wS (xr Y (HA (An ah ab aa ai (ae) ac ad af dJ za zb zc) Y H9) ?_));rintro _ _ ⟨b4,lw,rfl,rfl⟩;refine va Y (nR (va Y (nY (wS (vm Y (xQ Y (Hs Y underlying59 Y (SL.val zO)) (vm Y ?_)))))));refine nS (Gz ?_);obtain⟨fp,fq,h⟩:=h;refine xL (fun s e H=>match s with | (fp,kU)=>∃ nW kv,e=[(1,iI cI),(2,iI fb),(4,.pointer (some ⟨b4,0,none⟩)),(9,nW),(12,v3),(13,iI (eL.length:Int)),(14,iI kU)]/\H=kv++((b4,BK 13 (cl (An ah ab aa ai (ae) ac ad af dJ za zb zc)) 62)::([]))/\OJ 45 28 iv kv nW fp/\Cov w [] kv) (fun(fp:LM) ex e H=>∃ lF jq,ex=.exit 0/\e=[(9,lF)]/\H=jq++((b4,BK 13 (cl (An ah ab aa ai (ae) ac ad af dJ za zb zc)) 62)::([]))/\OJ 45 28 iv jq lF fp/\Cov w [] jq) fq ⟨_,[],Y,Y,OJ.nil,KV⟩ ?_ ?_
 .rintro⟨fp,kU⟩ o _ _ ⟨nW,kv,rfl,rfl,oI,jc⟩ hb;have h:Sr ah cI fb eL fp kU o:=hb
  clear hb;unfold Sr at h;refine wS (xQ Y (G6 Y Y) (nY (wd Y h (fun bB h=>?_) fun bB h=>?_)))
  .refine jS (Gz (wS ?_));obtain⟨d3,h⟩:=h;refine xQ Y (Hy HY Y Y (fun w hw=>(zO.keep hw FR)) Y d3) (xQ Y (HN (off:=0) (u:=iI (eL[kU.toNat]!)) Y GF Y (fun w hw=>(zO.keep hw FR)) (GG d3) Y Y) (va Y (nS (Gr (vm Y (vm Y (vm Y (Xf Jk Y Y (Xi ah GF Y Y (vm Y (xQ Y (Ht XC Lf (.int G9 Y Y (.int Jz Y Y (.int HG Y Y (.int Hi Y Y (.nil _)))))) (xr Y (Ho Re Lf Y Y Y (.ints Y Y (.nil _))) ?_))))))))))));rintro _ _ ⟨Ga,Fx,rfl,rfl⟩;obtain⟨el,h⟩:=h;refine xr Y (OT.st (fun _ h=>Pull.st (qC qH) h) (Hj (l:=fp) (l':=[(Gq (Gq (Gq (Gq (fun _=>0) 0 cI) 2 (eL[kU.toNat]!)) 3 ah) 8 fb)]) (B:=kv) TX Y Y oI (fun w2 cC=>(JH 1 (l:=[(Gq (Gq (Gq (Gq (fun _=>0) 0 cI) 2 (eL[kU.toNat]!)) 3 ah) 8 fb)]) cC (mR mH) Y Y AJ)) (fun _ _=>Y) el (G2 el D))) ?_;rintro oo _ ⟨ee,rfl,qM,gp⟩;have dp:=Cov.trans jc qM
   refine G0 ((Ga,_)::(ee++((b4,_)::([])))) (fun _ h=>Pull.push (qC qH) h) (va Y (Gw (GZ 1 (Gt (Gr ?_)))));obtain⟨eY,h⟩:=h;exact xQ Y (Hk Y Y Y eY) (vm Y (Gw (xN h ⟨oo,ee,Y,Y,gp,dp⟩)))
  .exact GJ (Gs (xO h ⟨nW,kv,Y,Y,Y,oI,jc⟩))
 .rintro _ _ _ ⟨lF,jq,rfl,rfl,rfl,rl,pp⟩;replace h:WM fp r:=h;unfold WM at h;refine GD (qW (vm Y (va Y (nV ?_))));subst h
  exact yA results100 Y _ KP (⟨_,jq,Y,Y,rl,pp⟩)
theorem PN {s0 v1 v0} (w) (dK:SL w 1 ic v0 s0) (r) (h:Xv s0 v1 r):Con prog 101 #[v0,iI v1] w (Is (.bool r) []):=by
 unfold Xv at h;refine ce func101 Y ntmps101 Y (wS (va Y (nR (vm Y (vm Y (KO Y Aip Y func135 Y ntmps135 Y (wS (va Y ?_))))))));refine nY (wS (vm Y (xQ Y (Hs Y underlying59 Y (SL.val dK)) (vm Y (nS (Gz ?_))))));obtain⟨x1,fq,h⟩:=h;refine xL (fun(x8:Int) e H=>e=[(0,v0),(1,iI v1),(7,iI (s0.length:Int)),(8,iI x8)]/\H=[]) (fun x ex e H=>match x with | .inl _=>ex=.exit 0/\e=[]/\H=[] | .inr x4=>ex=.ret/\e=[(4,iI x4)]/\H=[]) fq ⟨Y,Y⟩ ?_ ?_
 .rintro x8 o _ _ ⟨rfl,rfl⟩ hb;have h:OS s0 v1 x8 o:=hb
  clear hb;unfold OS at h;refine wS (xQ Y (G6 Y Y) (nY (wd Y h (fun bB h=>?_) fun bB h=>?_)))
  .refine jS (Gz (wS (vm Y (va Y (nR (vm Y (vm Y ?_)))))));refine vm Y ?_;obtain⟨d3,h⟩:=h;refine xQ Y (Hy HY Y Y (fun w hw=>(dK.keep hw Fr.nil)) Y d3) (xQ Y (HN (off:=0) (u:=iI (s0[x8.toNat]!)) Y GF Y (fun w hw=>(dK.keep hw Fr.nil)) (GG d3) Y Y) (xQ Y (GI Y Y) (nS (wd Y h (fun cx h=>?_) fun cx h=>?_))))
   .exact wS (vm Y (va Y (nV (GB (Gx (xO h ⟨Y,Y,Y⟩))))))
   .refine GY (GZ 1 (Gt (Gr ?_)));obtain⟨el,h⟩:=h;exact xQ Y (Hk Y Y Y el) (vm Y (Gw (xN h ⟨Y,Y⟩)))
  .exact GJ (Gs (xO h ⟨Y,Y,Y⟩))
 .rcases x1 with _ | x4
  .rintro _ _ _ ⟨rfl,rfl,rfl⟩;replace h:Vk r:=h;unfold Vk at h;refine GD (qW (va Y (nV (rO results135 Y (?_)))));refine xQ Y (Ie Y Y) (va Y (nV ?_));subst h
   exact rO results101 Y (⟨Y,Y⟩)
  rintro _ _ _ ⟨rfl,rfl,rfl⟩;replace h:PM x4 r:=h;unfold PM at h;refine GB (Gx (rO results135 Y (?_)));refine xQ Y (Ie Y Y) (va Y (nV ?_));subst h
  exact rO results101 Y (⟨Y,Y⟩)
theorem Yg {x0} (w) (r) (h:ZB x0 r):Con prog 153 #[iI x0] w (Is (.bool r) []):=by
 unfold ZB at h;refine ce func153 Y ntmps153 Y (wS (va Y (nR (vm Y (vm Y (xQ Y (Hr Y Y) (va Y (nS ?_))))))));refine Hl ?_;subst h
 exact rO results153 Y (⟨Y,Y⟩)
theorem Y4 {x0} (w) (r) (h:Aas x0 r):Con prog 169 #[iI x0] w (Is (.bool r) []):=by
 unfold Aas at h;refine ce func169 Y ntmps169 Y (wS (va Y (nR (vm Y (vm Y (xQ Y (Hr Y Y) (va Y (nS ?_))))))));refine Hl ?_;subst h
 exact rO results169 Y (⟨Y,Y⟩)
theorem Ad4 {x0 y1} (w) (r) (h:ZU x0 y1 r):Con prog 152 #[iI x0,iI y1] w (Is (.bool r) []):=by
 unfold ZU at h;refine ce func152 Y ntmps152 Y (wS (va Y (nY (wk [] Y [(4,.bool ((((P0 x0))&&(!((P0 y1))))||(decide (x0<y1))))] ?_ ?_))))
 .refine Gr (vm Y (xc Y Agb Y (fun w1 br=>Y4 w1 _ (Abx)) (vm Y (VZ 7 Y (fun bB=>?_) fun bB=>?_))))
  .refine vm Y (xc Y Agb Y (fun w1 br=>Y4 w1 _ (Abx)) (xQ Y (Hh Y) (vt Y (vm Y (QC 12 Y (fun bA=>?_) fun bA=>?_)))))
   .exact vs Y (vs Y (vs Y (vt Y (va Y (P2 bB bA)))))
   .exact vm Y (vm Y (xQ Y (G6 Y Y) (vf Y (va Y (P2 bB bA)))))
  .exact vs Y (vs Y (vs Y (vf Y (vm Y (vm Y (vm Y (xQ Y (G6 Y Y) (vf Y (va Y (Ma bB))))))))))
 .refine Gt (Hl ?_);subst h
  exact rO results152 Y (⟨Y,Y⟩)
theorem QQ {x0 cU v0} (w) (dK:SL w 1 ic v0 x0) (r) (h:RH x0 cU r):Con prog 133 #[v0,iI cU] w (Is (.tuple #[iI r.1,.bool r.2]) []):=by
 unfold RH at h;refine ce func133 Y ntmps133 Y (wS (va Y (va Y (nR (vm Y (xQ Y (Hs Y underlying59 Y (SL.val dK)) (va Y (nS ?_))))))));refine wS (vm Y (va Y (va Y (nY (Gz ?_)))));obtain⟨i7,fq,h⟩:=h;refine xL (fun s e H=>match s with | (i7,j8)=>e=[(0,v0),(1,iI cU),(6,iI (x0.length:Int)),(7,iI i7),(8,iI j8)]/\H=[]) (fun(i7:Int) ex e H=>ex=.exit 0/\e=[(0,v0),(1,iI cU),(6,iI (x0.length:Int)),(7,iI i7)]/\H=[]) fq ⟨Y,Y⟩ ?_ ?_
 .rintro⟨i7,j8⟩ o _ _ ⟨rfl,rfl⟩ hb;have h:Ln x0 cU i7 j8 o:=hb
  clear hb;unfold Ln at h;refine Gu (wS (vm Y (vm Y (xQ Y (G6 Y Y) (nS (wd Y h (fun bB h=>?_) fun bB h=>?_))))))
  .refine jT (Gz (wS (vm Y (vm Y ?_))));obtain⟨d3,h⟩:=h;refine xQ Y (Hk Y Y Y d3) (xQ Y (AdM Y underlying3 underlying211) (xQ Y (AgL (c:=2) Y Y ⟨Ab,Ab⟩ Y) (xQ Y (AdM Y underlying211 underlying3) (va Y (nR (vm Y (vm Y ?_)))))));obtain⟨fX,h⟩:=h;refine xQ Y (Hy HY Y Y (fun w hw=>(dK.keep hw Fr.nil)) Y fX) (xQ Y (HN (off:=0) (u:=iI (x0[(IntKind.i64.wrap ((IntKind.u64.wrap (i7+j8)) / 2)).toNat]!)) Y GF Y (fun w hw=>(dK.keep hw Fr.nil)) (GG fX) Y Y) (vm Y (xc Y Aij Y (fun w1 br=>Ad4 w1 _ (Afx)) (nS ?_))));have hk:=h.2
   replace h:=h.1;refine wk [0,1,6] Y [(7,iI (if((PG (x0[(IntKind.i64.wrap ((IntKind.u64.wrap (i7+j8)) / 2)).toNat]!) cU))=true then(IntKind.i64.wrap ((IntKind.u64.wrap (i7+j8)) / 2))+1 else i7)),(8,iI (if((PG (x0[(IntKind.i64.wrap ((IntKind.u64.wrap (i7+j8)) / 2)).toNat]!) cU))=true then j8 else IntKind.i64.wrap ((IntKind.u64.wrap (i7+j8)) / 2)))] ?_ ?_
   .refine wb Y h (fun cb h=>?_) fun cb h=>?_
    .refine Gr (vm Y ?_);obtain⟨eY,h⟩:=h;exact xQ Y (Hk Y Y Y eY) (va Y (Gw (Mv (lce Y (Ze bB cb) (lce Y (Ze bB cb) (sl Y))) (fun _ hh=>hh))))
    .exact Gr (vm Y (va Y (Gw (Mv (lce Y (Ze bB cb) (lce Y (Ze bB cb) (sl Y))) (fun _ hh=>hh)))))
   .replace h:=hk;exact GZ 1 (xN h ⟨Y,Y⟩)
  .exact GJ (Gs (xO h ⟨Y,Y,Y⟩))
 .rintro _ _ _ ⟨rfl,rfl,rfl⟩;replace h:Ou x0 cU i7 r:=h;unfold Ou at h;refine GD (Gt (Gu ?_));obtain⟨eX,kD,h⟩:=h;refine wk [] Y [(4,iI i7),(5,.bool ((decide (i7<(x0.length:Int)))&&((decide (x0[i7.toNat]! = cU))||(((SJ (x0[i7.toNat]!)))&&((SJ cU))))))] ?_ ?_
  .refine Gr (vm Y (vm Y (vm Y (xQ Y (G6 Y Y) (vm Y (IY 35 Y (fun co=>?_) fun co=>?_))))))
   .refine vm Y (vm Y (xQ Y (Hy HY Y Y (fun w hw=>(dK.keep hw Fr.nil)) Y (eX (Qxb (dT co) co))) (xQ Y (HN (off:=0) (u:=iI (x0[i7.toNat]!)) Y GF Y (fun w hw=>(dK.keep hw Fr.nil)) (GG (eX (Qxb (dT co) co))) Y Y) (vm Y (xQ Y (GI Y Y) (vm Y (IY 42 Y (fun cQ=>?_) fun cQ=>?_)))))))
    .refine vs Y (vs Y (vs Y (vs Y (vs Y (vs Y (vs Y (vs Y (vs Y (vt Y (vt Y (va Y (va Y (Gw ?_)))))))))))));exact Mv ((lce Y (Ze co cQ) (lce Y (Ze co cQ) (sl Y)))) (fun _ h=>h)
    .refine vm Y (vm Y (xQ Y (Hy HY Y Y (fun w hw=>(dK.keep hw Fr.nil)) Y (kD (XP (dT co) co cQ) (XP (dF cQ) co cQ))) (xQ Y (HN (off:=0) (u:=iI (x0[i7.toNat]!)) Y GF Y (fun w hw=>(dK.keep hw Fr.nil)) (GG (kD (XP (dT co) co cQ) (XP (dF cQ) co cQ))) Y Y) (xc Y Agc Y (fun w1 br=>Yg w1 _ (AaQ)) (vm Y (VZ 48 Y (fun cg=>?_) fun cg=>?_))))))
     .exact vm Y (xc Y Agc Y (fun w1 br=>Yg w1 _ (AaQ)) (vt Y (vf Y (vt Y (va Y (va Y (Gw (Mv ((lce Y (XS co cQ cg) (lce Y (XS co cQ cg) (sl Y)))) (fun _ h=>h)))))))))
     .exact vs Y (vs Y (vf Y (vf Y (vt Y (va Y (va Y (Gw (Mv ((lce Y (XS co cQ cg) (lce Y (XS co cQ cg) (sl Y)))) (fun _ h=>h)))))))))
   .refine vs Y (vs Y (vs Y (vs Y (vs Y (vs Y (vs Y (vs Y (vs Y (vs Y (vs Y (vs Y (vs Y (vs Y ?_)))))))))))));exact vs Y (vs Y (vs Y (vf Y (va Y (va Y (Gw (Mv ((lce Y (Qeb co) (lce Y (Qeb co) (sl Y)))) (fun _ h=>h))))))))
  .refine Gt (Hl ?_);subst h
   exact rT results133 Y Y (⟨Y,Y⟩)
theorem XH {c0 bZ p0} (w) (hC:Has w (cat [[(p0,BK 28 (mv (II 1 3 (kS [2])) c0) 130)]])) (r) (h:Abt c0 bZ r):Con prog 64 #[.pointer (some ⟨p0,0,none⟩),iI bZ] w (IF fun v Ls=>Cov w (cat [[(p0,BK 28 (mv (II 1 3 (kS [2])) c0) 130)]]) (cat Ls)/\v=.tuple #[iI r.1,I8 86 r.2]/\Ls=[[(p0,BK 28 (mv (II 1 3 (kS [2])) c0) 130)]]):=by
 unfold Abt at h;refine ce func64 Y ntmps64 Y (Ni hC ((p0,_)::([])) Y (wS (va Y (va Y (nS (AcV (Gu (wS (vm Y (xQ Y (HP underlying79 Y Y Y Y) ?_))))))))));refine nS (GW Y Y (jW (va Y (nY (AcW (Gt (Gu ?_)))))));refine wS (vm Y (vp Y (Xf OW Y Y (xQ Y (Nv (f:=mv (II 0 3 (kS [2])) (fun i=>c0 (1+i))) Y Af4 mH U (W8 D)) (vm Y (nS (Gz ?_)))))));obtain⟨fx,fq,h⟩:=h;refine xL (fun s e H=>match s with | (fx,oM)=>e=[(1,iI bZ),(6,iI fx),(15,AG 27 (mv (II 0 3 (kS [2])) (fun i=>c0 (1+i)))),(16,iI oM)]/\H=(p0,BK 28 (mv (II 1 3 (kS [2])) c0) 130)::([])) (fun(fx:Int) ex e H=>ex=.exit 0/\e=[(6,iI fx)]/\H=(p0,BK 28 (mv (II 1 3 (kS [2])) c0) 130)::([])) fq ⟨Y,Y⟩ ?_ ?_
 .rintro⟨fx,oM⟩ o _ _ ⟨rfl,rfl⟩ hb;have h:NH c0 bZ fx oM o:=hb
  clear hb;unfold NH at h;refine wS (xQ Y (G6 Y Y) (nY (wd Y h (fun bB h=>?_) fun bB h=>?_)))
  .refine jS (Gz (wS (vm Y ?_)));obtain⟨d3,h⟩:=h;refine xQ Y (AdI (j:=oM.toNat) (h:=mv (kS [2]) (fun i=>(fun i=>c0 (1+i)) ((oM.toNat*3)+i))) Vx Y Y d3 Y D (W8 (fun i hi=>TU (j:=oM.toNat) (r:=i) U hi Y))) (xr Y (H8 Af1 Y) ?_);rintro _ _ ⟨b8,ws,rfl,rfl⟩;refine va Y (xZ Y (TG Y Y Af5 (fun _ _=>L5) mH uH) (nS (Gz (Gu (wk [1,6,7,8,15,16] Y [(20,.bool ((decide (oM=0))||(decide (bZ<1))))] ?_ ?_)))))
   .refine Gr (vm Y (xQ Y (GI Y Y) (vm Y (IY 23 Y (fun cx=>?_) fun cx=>?_))))
    .exact vs Y (vs Y (vt Y (va Y (P2 bB cx))))
    .exact vm Y (xQ Y (G6 Y Y) (vf Y (va Y (P2 bB cx))))
   .refine Gt (wb Y h (fun cb h=>?_) fun cb h=>?_)
    .refine GJ (Gy Y (GD (Gt (Gr ?_))));obtain⟨eY,h⟩:=h;exact xQ Y (Hk Y Y Y eY) (vm Y (Gw (xN h ⟨Y,Y⟩)))
    .refine wS (Xf Nz Y Y (Xi (c0 (1+(oM.toNat*3))) GF Y Y (vm Y (xQ Y (GI Y Y) (va Y (nS (wd Y h (fun ct h=>?_) fun ct h=>?_)))))))
     .exact wS (vm Y (va Y (nS (GJ (Gy Y (Gy Y (Gs (xO h ⟨Y,Y,Y⟩))))))))
     .refine GY (GZ 2 (GZ 1 (Gt (Gr ?_))));obtain⟨kD,h⟩:=h;exact xQ Y (Hk Y Y Y kD) (vm Y (Gw (xN h ⟨Y,Y⟩)))
  .exact GJ (Gs (xO h ⟨Y,Y,Y⟩))
 .rintro _ _ _ ⟨rfl,rfl,rfl⟩;replace h:Uj fx r:=h;unfold Uj at h;refine GD (Gt (Gu (wS (vm Y (xQ Y (GI Y Y) (nS (wd Y h (fun co h=>?_) fun co h=>?_)))))))
  .refine wS (xQ Y (HE Y underlying86 Y) (va Y (va Y (nU (Un ?_)))));subst h
   exact rT results64 Y Y (⟨[[(p0,_)]],Y,KV,Y,Y⟩)
  .refine jW (vm Y (va Y (va Y (nV (Un ?_)))));subst h
   exact rT results64 Y Y (⟨[[(p0,_)]],Y,KV,Y,Y⟩)
theorem RY {m0} (w) (r) (h:Aer m0 r):Con prog 140 #[AI 28 m0] w (Is (.bool r) []):=by
 unfold Aer at h;refine ce func140 Y ntmps140 Y (wS (xr Y (He Y) ?_));rintro _ _ ⟨b1,ko,rfl,rfl⟩;refine va Y (nY (wk [] Y [(2,.bool ((decide (m0 0=11))&&(decide ((Js m0)=0))))] ?_ ?_))
 .refine Gr (Xf G9 Y Y (Xi (m0 0) GF Y Y (xQ Y (GI Y Y) (vm Y (IY 6 Y (fun bB=>?_) fun bB=>?_)))))
  .exact xQ Y (GA Y Hm mH) (xc Y Ag8 Y (fun w1 br=>S0 w1 _ (UX)) (xQ Y (UR underlying28 Y (fun _=>Y) Y Y) (vt Y (va Y (Ma bB)))))
  .exact vs Y (vs Y (vs Y (vf Y (va Y (Ma bB)))))
 .refine Gt (Hl ?_);subst h
  exact yA results140 Y [] KP (⟨Y,Y⟩)
theorem ZL {gz m1} (w) (r) (h:UN gz m1 r):Con prog 109 #[iI gz,AI 28 m1] w (Is (.tuple #[AI 28 r.1,I8 86 r.2]) []):=by
 unfold UN at h;refine ce func109 Y ntmps109 Y (wS (xr Y (He Y) ?_));rintro _ _ ⟨b3,iU,rfl,rfl⟩;refine xr Y (H8 Lf Y) ?_;rintro _ _ ⟨b4,lw,rfl,rfl⟩;refine va Y (nY (wS (xQ Y (GA Y Hm (mT mH)) (xc Y YI Y (fun w1 br=>RY w1 _ (Ve)) (xQ Y (Hh Y) (nS (wc Y h (fun bB h=>?_) fun bB h=>?_)))))))
 .refine wS (xQ Y (Ht XC Lf (.nil _)) (xQ Y (HE Y underlying86 Y) (xZ Y (JF Y Y Hm mH uH) (va Y (nU ?_)))));subst h
  exact VV results109 Y Hm mH Y [] KP (⟨Y,Y⟩)
 .refine jW (vm Y (Xf IE Y Y (xZ Y (HS Y Y GF (mT mH) U (uT uH)) (Xf Jz Y Y (xZ Y (HS Y Y GF (mT mH) U (uT uH)) (nY (wS ?_)))))));refine xQ Y (GA Y Hm (mT mH)) (xc Y YI Y (fun w1 br=>RY w1 _ (Ve)) (xQ Y (Hh Y) (nS (wc Y h (fun bA h=>?_) fun bA h=>?_))))
  .refine wS (xQ Y (Ht XC Lf (.nil _)) (xQ Y (HE Y underlying86 Y) (xZ Y (JF Y Y Hm mH uH) (va Y (nU ?_)))));subst h
   exact VV results109 Y Hm mH Y [] KP (⟨Y,Y⟩)
  .refine jW (xQ Y (GA Y Hm (mT mH)) (xZ Y (JF Y Y Hm mH uH) (va Y (nV ?_))));subst h
   exact VV results109 Y Hm mH Y [] KP (⟨Y,Y⟩)
theorem Zl {m0} (w) (r) (h:Rr m0 r):Con prog 108 #[AI 28 m0] w (Is (.tuple #[iI r.1,I8 86 r.2]) []):=by
 unfold Rr at h;refine ce func108 Y ntmps108 Y (wS (xr Y (He Y) ?_));rintro _ _ ⟨b1,ko,rfl,rfl⟩;refine va Y (va Y (nY (wS (xQ Y (GA Y Hm mH) (xc Y YI Y (fun w1 br=>RY w1 _ (Ve)) (xQ Y (Hh Y) (nS (wc Y h (fun bB h=>?_) fun bB h=>?_))))))))
 .refine wS (xQ Y (HE Y underlying86 Y) (va Y (va Y (nU ?_))));subst h
  exact yB results108 Y Y [] KP (⟨Y,Y⟩)
 .refine jW (va Y (nY (wS (xQ Y (GA Y Hm mH) (KO Y Agg Y func142 Y ntmps142 Y (wS ?_))))));refine xr Y (He Y) ?_;rintro _ _ ⟨DY,FA,rfl,rfl⟩;refine va Y (nR (Xf Iu Y Y (Xf Ko Y Y (Xi (m0 11) GF Y Y ?_))));obtain⟨d3,h⟩:=h;refine xQ Y (AdF (h:=(m0 11).toNat) OZ Y Y (Int.toNat_of_nonneg d3.1).symm U) (va Y (nV (rO results142 Y (?_))));refine xQ Y (PD Y underlying173 Y) (vm Y (nS (Gz ?_)));obtain⟨n4,fq,h⟩:=h;refine xL (fun s e H=>match s with | (n4,kU)=>e=[(4,iI n4),(12,.slice (some ⟨DY,12,none⟩) ((m0 11).toNat) 8),(13,iI ((m0 11).toNat:Int)),(14,iI kU)]/\H=(DY,BK 28 (iv m0) 45)::([])) (fun(n4:Int) ex e H=>ex=.exit 0/\e=[(4,iI n4)]/\H=(DY,BK 28 (iv m0) 45)::([])) fq ⟨Y,Y⟩ ?_ ?_
  .rintro⟨n4,kU⟩ o _ _ ⟨rfl,rfl⟩ hb;have h:Mm m0 n4 kU o:=hb
   clear hb;unfold Mm at h;refine wS (xQ Y (G6 Y Y) (nY (wd Y h (fun cx h=>?_) fun cx h=>?_)))
   .refine jS (Gz (wS ?_));obtain⟨el,h⟩:=h;refine xQ Y (Kf Vw Y Y el Y) (xQ Y (Jx Y Sw mH (by have:=d3;have:=el;omega) (fun _ _=>Y)) (xr Y (H8 XT Y) ?_));rintro _ _ ⟨b6,og,rfl,rfl⟩;refine xZ Y (JF Y Y Sw mH uH) (nS (Gr (vm Y (Xf Kz Y Y (Xi (m0 (12+(kU.toNat*2))) GF Y Y (xQ Y (AgP Y) (va Y (Gw (GZ 1 (Gt (Gr ?_)))))))))));obtain⟨eY,h⟩:=h;exact xQ Y (Hk Y Y Y eY) (vm Y (Gw (xN h ⟨Y,Y⟩)))
   .exact GJ (Gs (xO h ⟨Y,Y,Y⟩))
  .rintro _ _ _ ⟨rfl,rfl,rfl⟩;replace h:QL n4 r:=h;unfold QL at h;refine GD (qW (vm Y (va Y (va Y (nV ?_)))));subst h
   exact yB results108 Y Y [] KP (⟨Y,Y⟩)
theorem AeL {m0} (w) (r) (h:Aat m0 r):Con prog 107 #[AI 28 m0] w (Is (.bool r) []):=by
 unfold Aat at h;refine ce func107 Y ntmps107 Y (wS (xr Y (He Y) ?_));rintro _ _ ⟨b1,ko,rfl,rfl⟩;refine va Y (nY (Gu (wk [1] Y [(14,.bool ((!((JN m0)))||(!(decide (m0 9=m0 12)))))] ?_ ?_)))
 .refine Gr (xQ Y (GA Y Hm mH) (xc Y YI Y (fun w1 br=>RY w1 _ (Ve)) (xQ Y (Hh Y) (vm Y (QC 6 Y (fun bB=>?_) fun bB=>?_)))))
  .exact Ma bB
  .exact Xf Hx Y Y (Xi (m0 9) GF Y Y (Xf Iu Y Y (xQ Y (KY (j:=0) OZ Y Y ⟨Aa,Aa⟩ Y) (xQ Y (L4 Kz Y) (Xi (m0 12) GF Y Y (xQ Y (Hr Y Y) (Ma bB)))))))
 .refine Gt (wb Y h (fun bA h=>?_) fun bA h=>?_)
  .refine wS (va Y (nU ?_));subst h
   exact yA results107 Y [] KP (⟨Y,Y⟩)
  .refine jS (wS (Xf Lv Y Y (Xi (m0 10) GF Y Y (nS (Gz (Gu (Gz (Gz (Gu ?_)))))))));refine Gu (wS (xQ Y (GI Y Y) (va Y (nS (wd Y h (fun cx h=>?_) fun cx h=>?_)))))
   .refine GJ (Gs (Gs (GD (GZ 2 (Gt (Gu (wS (va Y (nU ?_)))))))));refine GB (Gx ?_);subst h
    exact yA results107 Y [] KP (⟨Y,Y⟩)
   .refine jW (Xf Iu Y Y (xQ Y (KY (j:=0) OZ Y Y ⟨Aa,Aa⟩ Y) (xQ Y (L4 Rb Y) (Xi (m0 13) GF Y Y (xQ Y (GI Y Y) (va Y (nS (wd Y h (fun cb h=>?_) fun cb h=>?_))))))))
    .refine GJ (Gs (Gy Y (GD (Gt (Gu (wS (va Y (nU (GB ?_)))))))));refine Gx ?_;subst h
     exact yA results107 Y [] KP (⟨Y,Y⟩)
    .refine jT (GJ (Gy Y (Gy Y (Gs (GD (qW (va Y (nV ?_))))))));subst h
     exact yA results107 Y [] KP (⟨Y,Y⟩)
theorem Ad2 {m0 dO v1} (w) (ju:SL w 2 iv v1 dO) (r) (h:Xd m0 dO r):Con prog 105 #[AI 28 m0,v1] w (Is (.bool r) []):=by
 unfold Xd at h;refine ce func105 Y ntmps105 Y (wS (xr Y (He Y) ?_));rintro _ _ ⟨b2,j5,rfl,rfl⟩;refine xr Y (W6 Y (GL (SL.val ju))) ?_;rintro _ _ ⟨b3,iU,rfl,rfl⟩;refine va Y (nR (xQ Y (GA Y Hm (mT mH)) (xc Y YI Y (fun w1 br=>RY w1 _ (Ve)) (vm Y (ob 7 Y h (fun bB h=>?_) fun bB h=>?_)))))
 .refine xQ Y (GA Y Hm (mT mH)) (KO Y Agg Y func142 Y ntmps142 Y (wS (xr Y (He Y) ?_)));rintro _ _ ⟨b1,ko,rfl,rfl⟩;refine va Y (nR (Xf Iu Y Y (Xf Ko Y Y (Xi (m0 11) GF Y Y ?_))));obtain⟨d3,h⟩:=h;refine xQ Y (AdF (h:=(m0 11).toNat) OZ Y Y (Int.toNat_of_nonneg d3.1).symm U) (va Y (nV (rO results142 Y (?_))));refine xQ Y (AaZ Y Y) (KO Y Ain Y func141 Y ntmps141 Y (wS (va Y (nR (vm Y (vm Y (KO Y Aii Y func156 Y ntmps156 Y (wS ?_))))))));refine va Y (nY (wS (vm Y (xQ Y (PD Y underlying173 Y) (vm Y (nS (Gz ?_)))))));obtain⟨x1,fq,h⟩:=h;refine xL (fun(x8:Int) e H=>e=[(0,.slice (some ⟨b1,12,none⟩) ((m0 11).toNat) 8),(1,.func (.func 143) [].toArray [.pointer (some ⟨b3,0,none⟩)].toArray),(7,iI ((m0 11).toNat:Int)),(8,iI x8)]/\H=(b1,BK 28 (iv m0) 45)::((b3,BK 1 (fun _=>v1) 173)::((b2,BK 28 (iv m0) 45)::([])))) (fun x ex e H=>match x with | .inl _=>ex=.exit 0/\e=[]/\H=(b1,BK 28 (iv m0) 45)::((b3,BK 1 (fun _=>v1) 173)::((b2,BK 28 (iv m0) 45)::([]))) | .inr x4=>ex=.ret/\e=[(4,iI x4)]/\H=(b1,BK 28 (iv m0) 45)::((b3,BK 1 (fun _=>v1) 173)::((b2,BK 28 (iv m0) 45)::([])))) fq ⟨Y,Y⟩ ?_ ?_
  .rintro x8 o _ _ ⟨rfl,rfl⟩ hb;have h:OM m0 dO x8 o:=hb
   clear hb;unfold OM at h;refine wS (xQ Y (G6 Y Y) (nY (wd Y h (fun cx h=>?_) fun cx h=>?_)))
   .refine jS (Gz (wS (vm Y (va Y (nR (vm Y (vm Y ?_)))))));refine vm Y ?_;obtain⟨el,h⟩:=h;refine xQ Y (Kf Vw Y Y el Y) (xQ Y (Jx Y Sw mH (by have:=d3;have:=el;omega) (fun _ _=>Y)) (xoR Y trivial (UL (l:=[(0,_),(1,_)]) Y Aim Y func143 Y ntmps143 Y (lac Y (lac Y lan)) ?_)));refine wS (xr Y (He Y) ?_);rintro _ _ ⟨sw,wH,rfl,rfl⟩;refine va Y (nR (xQ Y (JV Y AhN (mT (mT mH))) (xQ Y (GA Y Sw mH) (KO Y Ail Y func144 Y ntmps144 Y (wS (xr Y (He Y) ?_))))));rintro _ _ ⟨iV,oh,rfl,rfl⟩;refine va Y (nR (vm Y (xQ Y (GA Y Sw mH) (KO Y Aih Y func157 Y ntmps157 Y (wS (xr Y (He Y) ?_))))));rintro _ _ ⟨wO,wY,rfl,rfl⟩;refine va Y (nY (wS (vm Y (xQ Y (Hs Y underlying173 Y (SL.val ju)) (vm Y (nS (Gz ?_)))))));obtain⟨x2,kA,h⟩:=h;refine xL (fun(sy:Int) e H=>e=[(0,v1),(3,.pointer (some ⟨wO,0,none⟩)),(7,iI (dO.length:Int)),(8,iI sy)]/\H=(wO,BK 2 (iv (fun i=>m0 ((12+(x8.toNat*2))+i))) 42)::((iV,BK 2 (iv (fun i=>m0 ((12+(x8.toNat*2))+i))) 42)::((sw,BK 2 (iv (fun i=>m0 ((12+(x8.toNat*2))+i))) 42)::((b1,BK 28 (iv m0) 45)::((b3,BK 1 (fun _=>v1) 173)::((b2,BK 28 (iv m0) 45)::([]))))))) (fun x ex e H=>match x with | .inl _=>ex=.exit 0/\e=[]/\H=(wO,BK 2 (iv (fun i=>m0 ((12+(x8.toNat*2))+i))) 42)::((iV,BK 2 (iv (fun i=>m0 ((12+(x8.toNat*2))+i))) 42)::((sw,BK 2 (iv (fun i=>m0 ((12+(x8.toNat*2))+i))) 42)::((b1,BK 28 (iv m0) 45)::((b3,BK 1 (fun _=>v1) 173)::((b2,BK 28 (iv m0) 45)::([])))))) | .inr x4=>ex=.ret/\e=[(4,iI x4)]/\H=(wO,BK 2 (iv (fun i=>m0 ((12+(x8.toNat*2))+i))) 42)::((iV,BK 2 (iv (fun i=>m0 ((12+(x8.toNat*2))+i))) 42)::((sw,BK 2 (iv (fun i=>m0 ((12+(x8.toNat*2))+i))) 42)::((b1,BK 28 (iv m0) 45)::((b3,BK 1 (fun _=>v1) 173)::((b2,BK 28 (iv m0) 45)::([]))))))) kA ⟨Y,Y⟩ ?_ ?_
    .rintro sy o _ _ ⟨rfl,rfl⟩ hb;have h:Ny m0 dO x8 sy o:=hb
     clear hb;unfold Ny at h;refine wS (xQ Y (G6 Y Y) (nY (wd Y h (fun dU h=>?_) fun dU h=>?_)))
     .refine jS (Gz (wS (vm Y (va Y (nY (GK Z Z (fun hok=>?_)))))));refine Bw Sw hok 0 Y Z Y mH (Bm hok 1 Y Z Y (Bm hok 2 Y Z Y ?_));obtain⟨eX,h⟩:=h;refine xb hok 3 [12,13] Y Z (fun _ hK=>Hy Vw Y Y (fun w hw=>(ju.keep hw (fun k hk=>(hK k hk).elim (fun h=>(Fr.cons wY (Fr.cons oh (Fr.cons wH (Fr.cons ko (Fr.cons iU (Fr.cons j5 Fr.nil)))))) k h) id))) Y eX) (xb hok 4 [14] Y Z (fun _ hK=>ND Y Sw Y (fun w hw=>(ju.keep hw (fun k hk=>(hK k hk).elim (fun h=>(Fr.cons wY (Fr.cons oh (Fr.cons wH (Fr.cons ko (Fr.cons iU (Fr.cons j5 Fr.nil)))))) k h) id))) (GG eX) Y) (xb hok 5 [11,15] Y Z (fun _ hK=>Io Ahm Y Y) (GM hok Z (Gt (wb Y h (fun dW h=>?_) fun dW h=>?_)))))
      .exact wS (vm Y (va Y (nV (GB (Gx (xO h ⟨Y,Y,Y⟩))))))
      .refine GY (GZ 1 (Gt (Gr ?_)));obtain⟨nP,h⟩:=h;exact xQ Y (Hk Y Y Y nP) (vm Y (Gw (xN h ⟨Y,Y⟩)))
     .exact GJ (Gs (xO h ⟨Y,Y,Y⟩))
    .rcases x2 with _ | x4
     .rintro _ _ _ ⟨rfl,rfl,rfl⟩;replace h:RW x8 o:=h;unfold RW at h;refine GD (qW (va Y (nV (rO results157 Y (?_)))));refine xQ Y (Ie Y Y) (va Y (nV (rO results144 Y (?_))));refine xQ Y (Hh Y) (va Y (nV (rO results143 Y (?_))));exact nS (GQ Y Y (wS (vm Y (va Y (nV (GB (Gx (xO h ⟨Y,Y,Y⟩))))))))
     rintro _ _ _ ⟨rfl,rfl,rfl⟩;replace h:N0 x8 x4 o:=h;unfold N0 at h;refine GB (Gx (rO results157 Y (?_)));refine xQ Y (Ie Y Y) (va Y (nV (rO results144 Y (?_))));refine xQ Y (Hh Y) (va Y (nV (rO results143 Y (?_))));refine nS (wn Y h (fun cQ h=>?_) fun cQ h=>?_)
     .exact wS (vm Y (va Y (nV (GB (Gx (xO h ⟨Y,Y,Y⟩))))))
     .refine GY (GZ 1 (Gt (Gr ?_)));obtain⟨gd,h⟩:=h;exact xQ Y (Hk Y Y Y gd) (vm Y (Gw (xN h ⟨Y,Y⟩)))
   .exact GJ (Gs (xO h ⟨Y,Y,Y⟩))
  .rcases x1 with _ | x4
   .rintro _ _ _ ⟨rfl,rfl,rfl⟩;replace h:U4 r:=h;unfold U4 at h;refine GD (qW (va Y (nV (rO results156 Y (?_)))));refine xQ Y (Ie Y Y) (va Y (nV (rO results141 Y (?_))));refine xQ Y (Hh Y) (vt Y (va Y (nV ?_)));subst h
    exact yA results105 Y [] KP (⟨Y,Y⟩)
   rintro _ _ _ ⟨rfl,rfl,rfl⟩;replace h:U3 x4 r:=h;unfold U3 at h;refine GB (Gx (rO results156 Y (?_)));refine xQ Y (Ie Y Y) (va Y (nV (rO results141 Y (?_))));refine xQ Y (Hh Y) (vt Y (va Y (nV ?_)));subst h
   exact yA results105 Y [] KP (⟨Y,Y⟩)
 .refine vs Y (vs Y (vs Y (vs Y (vs Y (vf Y (va Y (nV ?_)))))));subst h
  exact yA results105 Y [] KP (⟨Y,Y⟩)
theorem WY {r0 n1} (w) (r) (h:JZ r0 n1 (Eq r)):Con prog 50 #[AI 2 r0,iI n1] w (Is (.tuple #[iI r.1,I8 86 r.2]) []):=by
 unfold JZ at h;refine ce func50 Y ntmps50 Y (wS (xr Y (He Y) ?_));rintro _ _ ⟨b2,j5,rfl,rfl⟩;refine va Y (va Y (nY (Gz (wS (xQ Y (GA Y I4 mH) (xc Y Ag4 Y (fun w1 br=>SP w1 _ (UC)) (xQ Y (Hh Y) (va Y (nS ?_)))))))));refine wc Y h (fun bB h=>?_) fun bB h=>?_
 .refine wS (xQ Y (HE Y underlying86 Y) (va Y (va Y (nV (GB (Gx ?_))))));subst h
  exact yB results50 Y Y [] KP (⟨Y,Y⟩)
 .refine Gu (wk [1,2] Y [(11,.bool ((decide (n1<1))||(decide (64<n1))))] ?_ ?_)
  .refine Gr (vm Y (xQ Y (G6 Y Y) (vm Y (IY 14 Y (fun bA=>?_) fun bA=>?_))))
   .exact vs Y (vs Y (vt Y (va Y (P2 bB bA))))
   .exact vm Y (xQ Y (Hz Y Y) (vf Y (va Y (P2 bB bA))))
  .refine Gt (wb Y h (fun cx h=>?_) fun cx h=>?_)
   .refine wS (xQ Y (HE Y underlying86 Y) (va Y (va Y (nV (GB (Gx ?_))))));subst h
    exact yB results50 Y Y [] KP (⟨Y,Y⟩)
   .refine GY (GZ 0 (qW (Xf PS Y Y (Xi (r0 0) GF Y Y ?_))));obtain⟨el,h⟩:=h;refine xQ Y (Ke Y Y Y el) (vm Y ?_);obtain⟨eY,h⟩:=h;refine xQ Y (AdG Y Y eY Y) ?_;obtain⟨eX,h⟩:=h;refine xQ Y (Hk Y Y Y eX) (va Y (va Y (nV ?_)));subst h
    exact yB results50 Y Y [] KP (⟨Y,Y⟩)
end Go.Proofs.YtljklmlodfbdnaaGreat
namespace Go.Proofs.YtljklmlodfbdnaaGreat
open Go Go.E Go.Proofs.Tryz
theorem Mf {ak ab aa ai af ad ae ah ac aj al am zd za zb zc} (w) (ci:SL w 1 ic zd ac) (bV:SL w 1 ic za aj) (bU:SL w 1 ic zb al) (bY:SL w 5 iv zc am) (r) (h:MQ ak ab aa ai af ad ae ah ac aj al am (Eq r)):Con prog 94 #[AG 13 (cl (An ak ab aa ai (af) ad ae ah zd za zb zc))] w (fun v F=>∃ (dD cB cA cz:Value) (fj dw dv du:GH),v=AG 13 (cl (An r.1 r.2.1 r.2.2.1 r.2.2.2.1 (r.2.2.2.2.1) r.2.2.2.2.2.1 r.2.2.2.2.2.2.1 r.2.2.2.2.2.2.2.1 dD cB cA cz))/\F=(fj++(dw++(dv++(du++[]))))/\OJ 3 1 ic fj dD r.2.2.2.2.2.2.2.2.1/\Cov w [] fj/\OJ 3 1 ic dw cB r.2.2.2.2.2.2.2.2.2.1/\Cov w [] dw/\OJ 3 1 ic dv cA r.2.2.2.2.2.2.2.2.2.2.1/\Cov w [] dv/\OJ 104 5 iv du cz r.2.2.2.2.2.2.2.2.2.2.2/\Cov w [] du):=by
 unfold MQ at h;refine ce func94 Y ntmps94 Y (wS (xr Y (HA (An ak ab aa ai (af) ad ae ah zd za zb zc) Y H9) ?_));rintro _ _ ⟨b1,ko,rfl,rfl⟩;refine xr Y (G1 Ao Ij H9) ?_;rintro _ _ ⟨b2,j5,rfl,rfl⟩;refine nY (GK Z Z (fun hok=>?_));refine Bf Ji hok 0 Y Z Y (Bl zd HX hok 1 Y Z Y (mT mH) (Bf M7 hok 3 Y Z Y (Bl za HX hok 4 Y Z Y (mT mH) (Bf LC hok 6 Y Z Y (Bl zb HX hok 7 Y Z Y (mT mH) (Bf OV hok 9 Y Z Y (Bl zc Sv hok 10 Y Z Y (mT mH) ?_)))))));obtain⟨gm,h⟩:=h;refine GV hok 2 [(4,_)] Y Y Z (lc Y ln) Z trivial (OT.st (fun _ h=>h) (GC (Cs:=[]) (Rs:=[[(b2,_)],[(b1,_)]]) V0 Y (fun w1 br=>aF ((fun(br:St w ((b2,_)::((b1,_)::([]))) w1)=>Jm w1 (ci.keep br FR) _ (JP gm)) br)) (by exact fun _ _ _ h=>h.1))) ?_;rintro lx _ ⟨w1,_,rfl,hle,-,_,dk,rfl,rfl,gP,dr⟩;replace dr:=Cov.base (w0:=w) dr hle;refine Iv (H':=dk++((b2,_)::((b1,_)::([])))) Y ?_;refine⟨RA,KM,?_⟩;refine Bf Ji hok 12 Y Z Y ?_;obtain⟨fX,h⟩:=h;refine GV hok 5 [(7,_)] Y Y Z (lc Y ln) Z trivial (OT.st (fun _ h=>h) (GC (Cs:=[]) (Rs:=[dk,[(b2,_)],[(b1,_)]]) V0 Y (fun w1 br=>aF ((fun(br:St w (dk++((b2,_)::((b1,_)::([])))) w1)=>Jm w1 (bV.keep br FR) _ (JP fX)) br)) (by exact fun _ _ _ h=>h.1))) ?_;rintro qs _ ⟨w1,_,rfl,hle,-,_,eP,rfl,rfl,jB,fF⟩;replace fF:=Cov.base (w0:=w) fF hle;refine Iv (H':=eP++(dk++((b2,_)::((b1,_)::([]))))) Y ?_;refine⟨RA,KM,?_⟩;obtain⟨eY,h⟩:=h;refine GV hok 8 [(10,_)] Y Y Z (lc Y ln) Z trivial (OT.st (fun _ h=>h) (GC (Cs:=[]) (Rs:=[eP,dk,[(b2,_)],[(b1,_)]]) V0 Y (fun w1 br=>aF ((fun(br:St w (eP++(dk++((b2,_)::((b1,_)::([]))))) w1)=>Jm w1 (bU.keep br FR) _ (JP eY)) br)) (by exact fun _ _ _ h=>h.1))) ?_;rintro sB _ ⟨w1,_,rfl,hle,-,_,j7,rfl,rfl,jO,ew⟩;replace ew:=Cov.base (w0:=w) ew hle;refine Iv (H':=j7++(eP++(dk++((b2,_)::((b1,_)::([])))))) Y ?_;refine⟨RA,KM,?_⟩;obtain⟨kD,h⟩:=h;refine GV hok 11 [(13,_)] Y Y Z (lc Y ln) Z trivial (OT.st (fun _ h=>h) (GC (Cs:=[]) (Rs:=[j7,eP,dk,[(b2,_)],[(b1,_)]]) Ah6 Y (fun w1 br=>aF ((fun(br:St w (j7++(eP++(dk++((b2,_)::((b1,_)::([])))))) w1)=>VC w1 (bY.keep br FR) _ (WA kD)) br)) (by exact fun _ _ _ h=>h.1))) ?_;rintro qu _ ⟨w1,_,rfl,hle,-,_,ku,rfl,rfl,fh,db⟩;replace db:=Cov.base (w0:=w) db hle;refine Iv (H':=ku++(j7++(eP++(dk++((b2,_)::((b1,_)::([]))))))) Y ?_;refine⟨RA,KM,?_⟩;refine HF hok 2 13 [(15,_),(5,_)] Y Y Z Z (lc Y (lc Y ln)) Z trivial (Ha Y Y HX (GL (OJ.val gP)) (mR (mR (mR (mR (mT mH))))) Y (pT (pT (pT (pT (pT (pT (pT (pT (pT pH))))))))) (Upd.seg (Upd.seg (Upd.seg (Upd.seg (uT uH)))))) ?_;rintro _ _ ⟨rfl,rfl⟩;refine⟨KM,?_⟩;refine Bf M7 hok 14 Y Z Y (HF hok 2 15 [(16,_),(8,_)] Y Y Z Z (lc Y (lc Y ln)) Z trivial (Ha Y Y HX (GL (OJ.val jB)) (mR (mR (mR (mR (mT mH))))) Y (pT (pT (pT (pT (pT (pT (pT (pT (pT (pT pH)))))))))) (Upd.seg (Upd.seg (Upd.seg (Upd.seg (uT uH)))))) ?_);rintro _ _ ⟨rfl,rfl⟩;refine⟨KM,?_⟩;refine Bf LC hok 16 Y Z Y (HF hok 1 17 [(17,_),(11,_)] Y Y Z Z (lc Y (lc Y ln)) Z trivial (Ha Y Y HX (GL (OJ.val jO)) (mR (mR (mR (mR (mT mH))))) Y (pT (pT (pT (pT (pT (pT (pT (pT (pT (pT (pT pH))))))))))) (Upd.seg (Upd.seg (Upd.seg (Upd.seg (uT uH)))))) ?_);rintro _ _ ⟨rfl,rfl⟩;refine⟨KM,?_⟩;refine Bf OV hok 18 Y Z Y (HF hok 0 19 [(18,_),(14,_)] Y Y Z Z (lc Y (lc Y ln)) Z trivial (Ha Y Y Sv (GL (OJ.val fh)) (mR (mR (mR (mR (mT mH))))) Y (pT (pT (pT (pT (pT (pT (pT (pT (pT (pT (pT (pT pH)))))))))))) (Upd.seg (Upd.seg (Upd.seg (Upd.seg (uT uH)))))) ?_);rintro _ _ ⟨rfl,rfl⟩;refine⟨KM,?_⟩;refine GM hok Z (qW (xQ Y (GA Y GP (mR (mR (mR (mR (mT mH)))))) (xZ Y (GS Y Y GP Y ON (mR (mR (mR (mR mH)))) (Upd.seg (Upd.seg (Upd.seg (Upd.seg uH))))) (nV ?_))));subst h
 exact cRa results94 Y GP (mR (mR (mR (mR mH)))) _ PK (⟨_,_,_,_,dk,eP,j7,ku,Y,Y,gP,dr,jB,fF,jO,ew,fh,db⟩)
theorem V9 {ak ab aa ai af ad ae ah ac aj al am m1 gb zd za zb zc v2} (w) (ci:SL w 1 ic zd ac) (bV:SL w 1 ic za aj) (bU:SL w 1 ic zb al) (bY:SL w 5 iv zc am) (wX:SL w 1 ic v2 gb) (r) (h:Nl ak ab aa ai af ad ae ah ac aj al am m1 gb (Eq r)):Con prog 145 #[AG 13 (cl (An ak ab aa ai (af) ad ae ah zd za zb zc)),AI 28 m1,v2] w (Is (I8 86 r) []):=by
 unfold Nl at h;refine ce func145 Y ntmps145 Y (wS (xr Y (HA (An ak ab aa ai (af) ad ae ah zd za zb zc) Y H9) ?_));rintro _ _ ⟨b3,iU,rfl,rfl⟩;refine xr Y (He Y) ?_;rintro _ _ ⟨b4,lw,rfl,rfl⟩;refine va Y (nY (Gu ?_));obtain⟨gm,h⟩:=h;refine wk [] Y [(23,.bool (((!((IC gb (m1 0))))||(!(decide ((Js m1)=0))))||(!(decide (m1 3=ak)))))] ?_ ?_
 .refine Gr (vm Y (Xf G9 Y Y (Xi (m1 0) GF Y Y (xc Y YK Y (fun w1 br=>PN w1 (wX.keep br FR) _ (R0 (gm))) (xQ Y (Hh Y) (vm Y (QC 12 Y (fun bA=>?_) fun bA=>?_)))))))
  .exact Ma bA
  .refine xQ Y (GA Y Hm mH) (xc Y Ag8 Y (fun w1 br=>S0 w1 _ (UX)) (xQ Y (IS underlying28 Y (fun _=>Y) Y Y) (vf Y (vm Y (Ub 17 Y (fun cx=>?_) fun cx=>?_)))))
   .exact P2 bA cx
   .exact Xf HG Y Y (Xi (m1 3) GF Y Y (Xf Jk Y Y (Xi ak GF Y Y (xQ Y (Hr Y Y) (P2 bA cx)))))
 .refine Gt (wb Y h (fun cb h=>?_) fun cb h=>?_)
  .refine wS (xQ Y (HE Y underlying86 Y) (va Y (nU ?_)));subst h
   exact yA results145 Y [] KP (⟨Y,Y⟩)
  .refine jW (va Y (nV ?_));subst h
   exact yA results145 Y [] KP (⟨Y,Y⟩)
theorem V7 {ak ab aa ai af ad ae ah ac aj al am m1 d5 gX zd za zb zc} (w) (ci:SL w 1 ic zd ac) (bV:SL w 1 ic za aj) (bU:SL w 1 ic zb al) (bY:SL w 5 iv zc am) (r) (h:Nk ak ab aa ai af ad ae ah ac aj al am m1 d5 gX (Eq r)):Con prog 111 #[AG 13 (cl (An ak ab aa ai (af) ad ae ah zd za zb zc)),AI 28 m1,iI d5,.bool (gX)] w (Is (I8 86 r) []):=by
 unfold Nk at h;refine ce func111 Y ntmps111 Y (wS (xr Y (HA (An ak ab aa ai (af) ad ae ah zd za zb zc) Y H9) ?_));rintro _ _ ⟨b4,lw,rfl,rfl⟩;refine xr Y (He Y) ?_;rintro _ _ ⟨b5,pt,rfl,rfl⟩;refine va Y (nY (wS (xQ Y (GA Y GP (mT mH)) (xQ Y (GA Y Hm mH) (vm Y (xr Y (Ho HY VU (HD Y) Y Y (.int Y Y (.nil _))) ?_))))));rintro _ _ ⟨jX,AK,rfl,rfl⟩;obtain⟨gm,h⟩:=h;refine xc Y Agf Y (fun w1 br=>V9 w1 (ci.keep br FR) (bV.keep br FR) (bU.keep br FR) (bY.keep br FR) (JH 1 (l:=[d5]) br mH Y Y AJ) _ (X9 gm)) (va Y (nR (vm Y (xQ Y (IS underlying28 Y (fun _=>Y) Y Y) (nS (wn Y h (fun bA h=>?_) fun bA h=>?_))))))
 .refine wS (vm Y (va Y (nU ?_)));subst h
  exact yA results111 Y [] KP (⟨Y,Y⟩)
 .refine jS (Gz (wS (vm Y (xQ Y (Hh Y) (va Y (nS (wc Y h (fun cx h=>?_) fun cx h=>?_)))))))
  .refine wS (xQ Y (HE Y underlying86 Y) (va Y (nV (GB (Gx ?_)))));subst h
   exact yA results111 Y [] KP (⟨Y,Y⟩)
  .refine wS (Xf Ji Y Y (Xl (zd) HX Y Y (Xf IE Y Y (Xi (m1 1) GF Y Y ?_))));obtain⟨el,h⟩:=h;refine xc Y YK Y (fun w1 br=>PN w1 (ci.keep br FR) _ (R0 el)) (xQ Y (Hh Y) (va Y (nS (wc Y h (fun dU h=>?_) fun dU h=>?_))))
   .refine wS (xQ Y (HE Y underlying86 Y) (va Y (nV (GB (Gx ?_)))));subst h
    exact yA results111 Y [] KP (⟨Y,Y⟩)
   .refine GY (GZ 0 (qW (va Y (nV ?_))));subst h
    exact yA results111 Y [] KP (⟨Y,Y⟩)
theorem Jf {ak ab aa ai af ad ae ah ac aj al am fC zd za zb zc v1} (w) (ci:SL w 1 ic zd ac) (bV:SL w 1 ic za aj) (bU:SL w 1 ic zb al) (bY:SL w 5 iv zc am) (ju:SL w 1 ic v1 fC) (r) (h:H0 ak ab aa ai af ad ae ah ac aj al am fC (Eq r)):Con prog 114 #[AG 13 (cl (An ak ab aa ai (af) ad ae ah zd za zb zc)),v1] w (fun v F=>∃ (u0:Value) (C0:GH),v=u0/\F=(C0++[])/\OJ 45 28 iv C0 u0 r/\Cov w [] C0):=by
 unfold H0 at h;refine ce func114 Y ntmps114 Y (wS (xr Y (HA (An ak ab aa ai (af) ad ae ah zd za zb zc) Y H9) ?_));rintro _ _ ⟨b2,j5,rfl,rfl⟩;refine va Y (nR (va Y (nY (wS (Xf Jj Y Y (Xi ab GF Y Y (xQ Y (GI Y Y) ?_)))))));refine nS (wk [1,2] Y [(5,iI (if ab=3 then 1 else 0))] ?_ ?_)
 .refine Zh Y (fun bB=>?_) fun bB=>?_
  .exact Gr (va Y (Ma bB))
  .exact GY (qk Y (by simp[bB]) Y)
 .refine qW (xQ Y (GA Y GP mH) (vm Y (vm Y ?_)));obtain⟨d3,h⟩:=h;refine Ir Y trivial YL Y (fun w1 br=>Ru w1 (ci.keep br FR) (bV.keep br FR) (bU.keep br FR) (bY.keep br FR) (ju.keep br FR) _ (Ur d3)) ?_;rintro w1 oo _ br ⟨_,ee,rfl,rfl,gp,dp⟩;refine⟨_,Mg.news (Cov.fresh dp) (.nil _),?_⟩;replace dp:=Cov.base (w0:=w) dp br.size;refine va Y (nV ?_);subst h
  exact yA results114 Y _ KP (⟨_,ee,Y,Y,gp,dp⟩)
theorem Sy {ak ab aa ai af ad ae ah ac aj al am jC zd za zb zc v1} (w) (ci:SL w 1 ic zd ac) (bV:SL w 1 ic za aj) (bU:SL w 1 ic zb al) (bY:SL w 5 iv zc am) (ju:SL w 1 ic v1 jC) (r) (h:T4 ak ab aa ai af ad ae ah ac aj al am jC r):Con prog 113 #[AG 13 (cl (An ak ab aa ai (af) ad ae ah zd za zb zc)),v1] w (fun v F=>∃ (u0:Value) (C0:GH),v=u0/\F=(C0++[])/\OJ 3 1 ic C0 u0 r/\Cov w [] C0):=by
 unfold T4 at h;refine ce func113 Y ntmps113 Y (wS (xr Y (HA (An ak ab aa ai (af) ad ae ah zd za zb zc) Y H9) ?_));rintro _ _ ⟨b2,j5,rfl,rfl⟩;refine xr Y (W6 Y (GL (SL.val ju))) ?_;rintro _ _ ⟨b3,iU,rfl,rfl⟩;refine va Y (nR (Xf Ji Y Y (Xl (zd) HX Y Y ?_)));obtain⟨gm,h⟩:=h;refine Ir Y trivial V0 Y (fun w1 br=>Jm w1 (ci.keep br FR) _ (JP gm)) ?_;rintro w1 lx _ br ⟨_,dk,rfl,rfl,gP,dr⟩;refine⟨_,Mg.news (Cov.fresh dr) (.nil _),?_⟩;replace dr:=Cov.base (w0:=w) dr br.size;refine xQ Y (AaZ Y Y) (KO Y Aik Y func148 Y ntmps148 Y (wS (va Y (nR (vm Y (vm Y (KO Y Aig Y func168 Y ntmps168 Y (wS ?_))))))));refine va Y (nY (wS (vm Y (xQ Y (Hs Y underlying59 Y (OJ.val gP)) (vm Y (nS (Gz ?_)))))));obtain⟨x1,fq,h⟩:=h;refine xL (fun(x8:Int) e H=>e=[(0,lx),(1,.func (.func 149) [].toArray [.pointer (some ⟨b3,0,none⟩)].toArray),(7,iI ((G3 ac).length:Int)),(8,iI x8)]/\H=dk++((b3,BK 1 (fun _=>v1) 59)::((b2,BK 13 (cl (An ak ab aa ai (af) ad ae ah zd za zb zc)) 62)::([])))) (fun x ex e H=>match x with | .inl _=>ex=.exit 0/\e=[]/\H=dk++((b3,BK 1 (fun _=>v1) 59)::((b2,BK 13 (cl (An ak ab aa ai (af) ad ae ah zd za zb zc)) 62)::([]))) | .inr x4=>ex=.ret/\e=[(4,iI x4)]/\H=dk++((b3,BK 1 (fun _=>v1) 59)::((b2,BK 13 (cl (An ak ab aa ai (af) ad ae ah zd za zb zc)) 62)::([])))) fq ⟨Y,Y⟩ ?_ ?_
 .rintro x8 o _ _ ⟨rfl,rfl⟩ hb;have h:ME ac jC x8 o:=hb
  clear hb;unfold ME at h;refine wS (xQ Y (G6 Y Y) (nY (wd Y h (fun cx h=>?_) fun cx h=>?_)))
  .refine jS (Gz (wS (vm Y (va Y (nR (vm Y (vm Y ?_)))))));refine vm Y ?_;obtain⟨el,h⟩:=h;refine xQ Y (Hy HY Y Y (fun w hw=>(gP.sl hw SG)) Y el) (xQ Y (HN (off:=0) (u:=iI ((G3 ac)[x8.toNat]!)) Y GF Y (fun w hw=>(gP.sl hw SG)) (GG el) Y Y) (xoR Y trivial (UL (l:=[(0,_),(1,_)]) Y Age Y func149 Y ntmps149 Y (lac Y (lac Y lan)) ?_)));refine wS (va Y (nR (xQ Y (JV Y HX (mR mH)) (vm Y ?_))));obtain⟨eY,h⟩:=h;refine xc Y YK Y (fun w1 br=>PN w1 (ju.keep br FR) _ (R0 eY)) (va Y (nV (rO results149 Y (?_))));refine nS (wb Y h (fun ct h=>?_) fun ct h=>?_)
   .exact wS (vm Y (va Y (nV (GB (Gx (xO h ⟨Y,Y,Y⟩))))))
   .refine GY (GZ 1 (Gt (Gr ?_)));obtain⟨kD,h⟩:=h;exact xQ Y (Hk Y Y Y kD) (vm Y (Gw (xN h ⟨Y,Y⟩)))
  .exact GJ (Gs (xO h ⟨Y,Y,Y⟩))
 .rcases x1 with _ | x4
  .rintro _ _ _ ⟨rfl,rfl,rfl⟩;replace h:NT ac r:=h;unfold NT at h;refine GD (qW (va Y (nV (rO results168 Y (?_)))));refine va Y (nY (wS (vm Y (xQ Y (GI Y Y) (nS (GQ Y Y (wS (vm Y ?_))))))));refine va Y (nU (rO results148 Y (?_)));refine va Y (nV ?_);subst h
   exact yA results113 Y _ KP (⟨_,dk,Y,Y,gP,dr⟩)
  rintro _ _ _ ⟨rfl,rfl,rfl⟩;replace h:NS ac jC x4 r:=h;unfold NS at h;refine GB (Gx (rO results168 Y (?_)));refine va Y (nY (wS (vm Y (xQ Y (GI Y Y) (nS (wd Y h (fun co h=>?_) fun co h=>?_))))))
  .refine wS (vm Y (va Y (nU (rO results148 Y (?_)))));refine va Y (nV ?_);subst h
   exact yA results113 Y _ KP (⟨_,dk,Y,Y,gP,dr⟩)
  .refine jS (wS (vm Y ?_));obtain⟨jv,h⟩:=h;refine xQ Y (Hk Y Y Y jv) (va Y (nS (Gz ?_)));obtain⟨x2,kA,h⟩:=h;refine xL (fun s e H=>match s with | (s0,i5,j6)=>∃ sc sv,e=[(0,sc),(1,.func (.func 149) [].toArray [.pointer (some ⟨b3,0,none⟩)].toArray),(5,iI i5),(6,iI j6)]/\H=sv++((b3,BK 1 (fun _=>v1) 59)::((b2,BK 13 (cl (An ak ab aa ai (af) ad ae ah zd za zb zc)) 62)::([])))/\OJ 3 1 ic sv sc s0/\Cov w [] sv) (fun s ex e H=>match s with | (s0,i5)=>∃ sH r8,ex=.exit 0/\e=[(0,sH),(5,iI i5)]/\H=r8++((b3,BK 1 (fun _=>v1) 59)::((b2,BK 13 (cl (An ak ab aa ai (af) ad ae ah zd za zb zc)) 62)::([])))/\OJ 3 1 ic r8 sH s0/\Cov w [] r8) kA ⟨lx,dk,Y,Y,gP,dr⟩ ?_ ?_
   .rintro⟨s0,i5,j6⟩ o _ _ ⟨sc,sv,rfl,rfl,nC,ri⟩ hb;have h:MD jC s0 i5 j6 o:=hb
    clear hb;unfold MD at h;refine Gu (wS (vm Y (vm Y (xQ Y (Hs Y underlying59 Y (OJ.val nC)) (xQ Y (G6 Y Y) (nS (wd Y h (fun cg h=>?_) fun cg h=>?_)))))))
    .refine jS (Gz (wS (vm Y (vm Y ?_))));obtain⟨dy,h⟩:=h;refine xQ Y (Hy HY Y Y (fun w hw=>(nC.sl hw SG)) Y dy) (xQ Y (HN (off:=0) (u:=iI (s0[j6.toNat]!)) Y GF Y (fun w hw=>(nC.sl hw SG)) (GG dy) Y Y) (va Y (nR (vm Y (vm Y (xoR Y trivial (UL (l:=[(0,_),(1,_)]) Y Age Y func149 Y ntmps149 Y (lac Y (lac Y lan)) ?_)))))));refine wS (va Y (nR (xQ Y (JV Y HX (mR mH)) (vm Y ?_))));obtain⟨hU,h⟩:=h;refine xc Y YK Y (fun w1 br=>PN w1 (ju.keep br FR) _ (R0 hU)) (va Y (nV (rO results149 Y (?_))));refine xQ Y (Hh Y) (nS (wc Y h (fun dL h=>?_) fun dL h=>?_))
     .refine wS (vm Y (vm Y (vm Y ?_)));obtain⟨eb,h⟩:=h;refine xQ Y (Hy HY Y Y (fun w hw=>(nC.sl hw SG)) Y eb) (xY Y (OT.st (fun _ h=>Pull.st qH h) (AgK (e:=s0[j6.toNat]!) Y Y GF Y nC (GG eb) Y Y)) ?_);rintro _ _ ⟨dN,rfl,hcnBs15,yL⟩;have cN:=ri.trans hcnBs15
      refine nS (Gr (vm Y ?_));obtain⟨gB,h⟩:=h;refine xQ Y (Hk Y Y Y gB) (va Y (Gw (GZ 1 (Gt (Gr (vm Y ?_))))));obtain⟨fY,h⟩:=h;exact xQ Y (Hk Y Y Y fY) (va Y (Gw (xN h ⟨sc,dN,Y,Y,yL,cN⟩)))
     .refine GY (GZ 1 (Gt (Gr (vm Y ?_))));obtain⟨gc,h⟩:=h;exact xQ Y (Hk Y Y Y gc) (va Y (Gw (xN h ⟨sc,sv,Y,Y,nC,ri⟩)))
    .exact GJ (Gs (xO h ⟨sc,sv,Y,Y,Y,nC,ri⟩))
   .obtain⟨s0,i5⟩:=x2;rintro _ _ _ ⟨sH,r8,rfl,rfl,rfl,u6,wD⟩;replace h:Qb s0 i5 r:=h;unfold Qb at h;refine GD (qW (vm Y (vm Y ?_)));obtain⟨fM,h⟩:=h;refine xQ Y (AdK HY Y (fun w hw=>(u6.sl hw SG)) Y fM) (xY Y (OT.st (fun _ h=>Pull.st qH h) (AdN (ag:=false) Ri VU Y Y u6 (LN fM))) ?_);rintro _ _ ⟨eN,rfl,Aw,fl⟩;have dq:=Cov.trans wD Aw
    refine nR (vm Y (vm Y ?_));obtain⟨jL,h⟩:=h;refine xQ Y (AdL HY Y (fun w hw=>(fl.sl hw SG)) Y jL) (va Y (nV (rO results148 Y (?_))));refine va Y (nV ?_);subst h
    exact yA results113 Y _ KP (⟨_,eN,Y,Y,(fl.cut (Nat.zero_le _) (LN jL) D),dq⟩)
theorem Ry {ak ab aa ai af ad ae ah ac aj al am zd za zb zc} (w) (ci:SL w 1 ic zd ac) (bV:SL w 1 ic za aj) (bU:SL w 1 ic zb al) (bY:SL w 5 iv zc am) (r) (h:QO ak ab aa ai af ad ae ah ac aj al am r):Con prog 21 #[AG 13 (cl (An ak ab aa ai (af) ad ae ah zd za zb zc))] w (Is (.bool r) []):=by
 unfold QO at h;refine ce func21 Y ntmps21 Y (wS (xr Y (HA (An ak ab aa ai (af) ad ae ah zd za zb zc) Y H9) ?_));rintro _ _ ⟨b1,ko,rfl,rfl⟩;refine va Y (nY (wS (Xf Jj Y Y (Xi ab GF Y Y (nS (Gz (Gu (Gz (Gz ?_)))))))));refine Gu (Gu (wS (xQ Y (GI Y Y) (va Y (nS (wd Y h (fun bB h=>?_) fun bB h=>?_))))))
 .refine GJ (Gs (Gs (GD (GZ 2 (Gt (Gu (wS (va Y (nU ?_)))))))));refine GB (Gx ?_);subst h
  exact yA results21 Y [] KP (⟨Y,Y⟩)
 .refine jW (xQ Y (GI Y Y) (va Y (nS (wd Y h (fun bA h=>?_) fun bA h=>?_))))
  .refine GJ (Gs (Gy Y (GD (Gt (Gu (wS (va Y (nU (GB ?_)))))))));refine Gx ?_;subst h
   exact yA results21 Y [] KP (⟨Y,Y⟩)
  .refine jT (GJ (Gy Y (Gy Y (Gs (GD (qW (va Y (nV ?_))))))));subst h
   exact yA results21 Y [] KP (⟨Y,Y⟩)
theorem Adb {qt} (w) (r) (h:Zs qt r):Con prog 46 #[iI qt] w (fun v F=>∃ (dD cB cA cz:Value) (fj dw dv du:GH),v=.tuple #[AG 13 (cl (An r.1.1 r.1.2.1 r.1.2.2.1 r.1.2.2.2.1 (r.1.2.2.2.2.1) r.1.2.2.2.2.2.1 r.1.2.2.2.2.2.2.1 r.1.2.2.2.2.2.2.2.1 dD cB cA cz)),I8 86 r.2]/\F=(fj++(dw++(dv++(du++[]))))/\OJ 3 1 ic fj dD r.1.2.2.2.2.2.2.2.2.1/\Cov w [] fj/\OJ 3 1 ic dw cB r.1.2.2.2.2.2.2.2.2.2.1/\Cov w [] dw/\OJ 3 1 ic dv cA r.1.2.2.2.2.2.2.2.2.2.2.1/\Cov w [] dv/\OJ 104 5 iv du cz r.1.2.2.2.2.2.2.2.2.2.2.2/\Cov w [] du):=by
 unfold Zs at h;refine ce func46 Y ntmps46 Y (wS (xr Y (G1 Ao Ij H9) ?_));rintro _ _ ⟨b2,j5,rfl,rfl⟩;refine va Y (nY (Gu (wk [0,2] Y [(9,.bool ((decide (qt<1))||(decide (1048576<qt))))] ?_ ?_)))
 .refine Gr (vm Y (xQ Y (G6 Y Y) (vm Y (IY 6 Y (fun bB=>?_) fun bB=>?_))))
  .exact Ma bB
  .exact vm Y (xQ Y (Hz Y Y) (Ma bB))
 .refine Gt (wb Y h (fun bA h=>?_) fun bA h=>?_)
  .refine wS (xQ Y (H7 Ao YU Ij (.nil _) H9) (xQ Y (HE Y underlying86 Y) (xZ Y (GS Y Y GP Y ON mH uH) (va Y (nU ?_)))));subst h
   exact VV results46 Y GP mH Y _ KP (⟨_,_,_,_,[],[],[],[],Y,Y,OJ.nil,Cov.refl _,OJ.nil,Cov.refl _,OJ.nil,Cov.refl _,OJ.nil,Cov.refl _⟩)
  .refine jW (vm Y (xQ Y (H7 (An qt 1 0 0 false 0 (fun _=>0) 0 (.slice none 0 0) (.slice none 0 0) (.slice none 0 0) (.slice none 0 0)) YU Ij (.one Jk Y Y Y (.one Jj Y Y Y (.nil _))) H9) (xZ Y (GS Y Y GP Y ON mH uH) (va Y (nV ?_)))));subst h
   exact VV results46 Y GP mH Y _ KP (⟨_,_,_,_,[],[],[],[],Y,Y,OJ.nil,Cov.refl _,OJ.nil,Cov.refl _,OJ.nil,Cov.refl _,OJ.nil,Cov.refl _⟩)
theorem VJ {c0 bv oQ p0} (w) (hC:Has w (cat [[(p0,BK 28 (mv (II 1 3 (kS [2])) c0) 130)]])) (r) (h:LZ c0 bv oQ (Eq r)):Con prog 47 #[.pointer (some ⟨p0,0,none⟩),iI bv,iI oQ] w (IF fun v Ls=>Cov w (cat [[(p0,BK 28 (mv (II 1 3 (kS [2])) c0) 130)]]) (cat Ls)/\v=I8 86 r.1/\Ls=[[(p0,BK 28 (mv (II 1 3 (kS [2])) r.2) 130)]]):=by
 unfold LZ at h;refine ce func47 Y ntmps47 Y (Ni hC ((p0,_)::([])) Y (wS (va Y (nR (vm Y (vm Y (KO Y AfA Y func92 Y ntmps92 Y (wS ?_))))))));refine va Y (va Y (nY (wS (vm Y (xQ Y (HP underlying79 Y Y Y Y) (nS (GW Y Y (jT ?_))))))));refine Gu (Gu (wk [0,1] Y [(18,.bool ((decide (bv<1))||(decide (c0 0<bv))))] ?_ ?_))
 .refine Gr (vm Y (xQ Y (G6 Y Y) (vm Y (IY 11 Y (fun bB=>?_) fun bB=>?_))))
  .exact Ma bB
  .exact vm Y (vm Y (vp Y (Xf Qt Y Y (Xi (c0 0) GF Y Y (xQ Y (Hz Y Y) (Ma bB))))))
 .refine Gt (wb Y h (fun bA h=>?_) fun bA h=>?_)
  .refine wS (xQ Y (HE Y underlying86 Y) (va Y (va Y (nU (rT results92 Y Y (?_))))));refine vm Y (ve Y (ve Y (va Y (va Y (nY (wS (vm Y (xQ Y (I6 underlying28 Y Y Y Y) (nS ?_)))))))));refine GQ Y Y (wS (vm Y (va Y (nU ?_))));subst h
   exact rO results47 Y (⟨[[(p0,_)]],Y,KV,Y,Y⟩)
  .refine jW (vm Y (vm Y (vp Y (Xf OW Y Y ?_))));obtain⟨fX,h⟩:=h;refine xQ Y (KY Vx Y Y fX Y) (va Y (va Y (nV (rT results92 Y Y (?_)))));refine vm Y (ve Y (ve Y (va Y (va Y (nY (wS (vm Y (xQ Y (I6 underlying28 Y Y Y Y) (nS ?_)))))))));refine GW Y Y (jW (vm Y (vm Y (xr Y (OT.st (fun _ h=>h) (GC (Cs:=[[(p0,_)]]) (Rs:=[]) Ag7 Y (fun w1 br=>XH w1 (St.hasC br) _ (Aan)) (fun _ _ _ h=>h.1))) ?_))));rintro _ _ ⟨w1,_,rfl,hle,-,rfl,rfl⟩;refine G0 ((p0,_)::([])) (fun _ h=>h) (vm Y (ve Y (ve Y (va Y (va Y (nY (Gz (Gu (wk [2,7,10] Y [(26,.bool ((decide (oQ<1))||(decide (1048576<oQ))))] ?_ ?_)))))))))
   .refine Gr (vm Y (xQ Y (G6 Y Y) (vm Y (IY 29 Y (fun ct=>?_) fun ct=>?_))))
    .exact vs Y (vs Y (vt Y (va Y (P2 bA ct))))
    .exact vm Y (xQ Y (Hz Y Y) (vf Y (va Y (P2 bA ct))))
   .refine Gt (wb Y h (fun dW h=>?_) fun dW h=>?_)
    .refine wS (xQ Y (HE Y underlying86 Y) (va Y (nV (GB (Gx ?_)))));subst h
     exact rO results47 Y (⟨[[(p0,_)]],Y,KV,Y,Y⟩)
    .refine wS (vm Y (vp Y (xQ Y (L4 R4 Y) (xQ Y (UQ (v:=.bool (nz (c0 ((1+(bv.toNat*3))+2)))) Y Om mH (by have:=fX;omega) (ZO (TU (j:=bv.toNat) (r:=2) U D Y))) (va Y (nS (wb Y h (fun co h=>?_) fun co h=>?_)))))))
     .refine wS (xQ Y (HE Y underlying86 Y) (va Y (nV (GB (Gx ?_)))));subst h
      exact rO results47 Y (⟨[[(p0,_)]],Y,KV,Y,Y⟩)
     .refine wS (vm Y (vp Y (xQ Y (L4 Nz Y) (xQ Y (UQ (v:=iI (c0 (1+(bv.toNat*3)))) Y GF mH (by have:=fX;omega) (Yt (TU (j:=bv.toNat) (r:=0) U D Y))) (xQ Y (Hr Y Y) (va Y (nS (wn Y h (fun cQ h=>?_) fun cQ h=>?_))))))))
      .refine wS (xQ Y (HE Y underlying86 Y) (va Y (nV (GB (Gx ?_)))));subst h
       exact rO results47 Y (⟨[[(p0,_)]],Y,KV,Y,Y⟩)
      .refine wS (vm Y (xQ Y (HE Y underlying86 Y) ?_));obtain⟨gd,h⟩:=h;refine xc Y Ahb Y (fun w1 br=>Vs 10 w1 gd) (xQ Y (Hh Y) (va Y (nS (wc Y h (fun dz h=>?_) fun dz h=>?_))))
       .refine wS (xQ Y (HE Y underlying86 Y) (va Y (nV (GB (Gx ?_)))));subst h
        exact rO results47 Y (⟨[[(p0,_)]],Y,KV,Y,Y⟩)
       .refine GY (GZ 0 (qW (vm Y (vm Y (vp Y (xQ Y (L4 Nz Y) (xZ Y (SW Y Y GF mH (by have:=fX;omega) (TU (j:=bv.toNat) (r:=0) U D Y) uH) (nR ?_))))))));refine va Y (nV ?_);subst h
        exact rO results47 Y (⟨[[(p0,_)]],Y,KV,Y,Y⟩)
theorem Y2 {c0 bZ p0} (w) (hC:Has w (cat [[(p0,BK 28 (mv (II 1 3 (kS [2])) c0) 130)]])) (r) (h:O4 c0 bZ (Eq r)):Con prog 98 #[.pointer (some ⟨p0,0,none⟩),iI bZ] w (IF fun v Ls=>Cov w (cat [[(p0,BK 28 (mv (II 1 3 (kS [2])) c0) 130)]]) (cat Ls)/\v=I8 86 r.1/\Ls=[[(p0,BK 28 (mv (II 1 3 (kS [2])) r.2) 130)]]):=by
 unfold O4 at h;refine ce func98 Y ntmps98 Y (Ni hC ((p0,_)::([])) Y (wS (va Y (nR (vm Y (vm Y (xr Y (OT.st (fun _ h=>h) (GC (Cs:=[[(p0,_)]]) (Rs:=[]) Ag7 Y (fun w1 br=>XH w1 (St.hasC br) _ (Aan)) (fun _ _ _ h=>h.1))) ?_)))))));rintro _ _ ⟨w1,_,rfl,hle,-,rfl,rfl⟩;refine G0 ((p0,_)::([])) (fun _ h=>h) (vm Y (ve Y (ve Y (va Y (va Y (nY (wS (vm Y (xQ Y (IS underlying28 Y (fun _=>Y) Y Y) (Gw ?_))))))))));refine Gt (wn Y h (fun cx h=>?_) fun cx h=>?_)
 .refine wS (vm Y (va Y (nU ?_)));subst h
  exact rO results98 Y (⟨[[(p0,_)]],Y,KV,Y,Y⟩)
 .refine jW (vm Y (vm Y (vp Y (Xf OW Y Y ?_))));obtain⟨el,h⟩:=h;refine xQ Y (KY Vx Y Y el Y) (xQ Y (L4 Nz Y) (xZ Y (SW Y Y GF mH (by have:=el;omega) (TU (j:=(((Kg c0 bZ).1).toNat)) (r:=0) U D Y) uH) (nR (va Y (nV ?_)))));subst h
  exact rO results98 Y (⟨[[(p0,_)]],Y,KV,Y,Y⟩)
theorem Sb {c0 bv p0} (w) (hC:Has w (cat [[(p0,BK 28 (mv (II 1 3 (kS [2])) c0) 130)]])) (r) (h:Ly c0 bv (Eq r)):Con prog 45 #[.pointer (some ⟨p0,0,none⟩),iI bv] w (IF fun v Ls=>Cov w (cat [[(p0,BK 28 (mv (II 1 3 (kS [2])) c0) 130)]]) (cat Ls)/\v=.tuple #[iI r.1,I8 86 r.2]/\Ls=[[(p0,BK 28 (mv (II 1 3 (kS [2])) c0) 130)]]):=by
 unfold Ly at h;refine ce func45 Y ntmps45 Y (Ni hC ((p0,_)::([])) Y (wS (va Y (va Y (nR (vm Y (vm Y (KO Y AfA Y func92 Y ntmps92 Y (Gu ?_)))))))));refine Gr (va Y (va Y (nY (wS (vm Y (xQ Y (HP underlying79 Y Y Y Y) (nS (GW Y Y (GY ?_)))))))));refine Gt (Gu (Gu (wk [0,1] Y [(18,.bool ((decide (bv<1))||(decide (c0 0<bv))))] ?_ ?_)))
 .refine Gr (vm Y (xQ Y (G6 Y Y) (vm Y (IY 11 Y (fun bB=>?_) fun bB=>?_))))
  .exact Ma bB
  .exact vm Y (vm Y (vp Y (Xf Qt Y Y (Xi (c0 0) GF Y Y (xQ Y (Hz Y Y) (Ma bB))))))
 .refine Gt (wb Y h (fun bA h=>?_) fun bA h=>?_)
  .refine wS (xQ Y (HE Y underlying86 Y) (va Y (va Y (nU (rT results92 Y Y (?_))))));refine vm Y (ve Y (ve Y (va Y (va Y (nY (wS (vm Y (xQ Y (I6 underlying28 Y Y Y Y) (nS ?_)))))))));refine GQ Y Y (wS (vm Y (va Y (va Y (nU ?_)))));subst h
   exact rT results45 Y Y (⟨[[(p0,_)]],Y,KV,Y,Y⟩)
  .refine jW (vm Y (vm Y (vp Y (Xf OW Y Y ?_))));obtain⟨fX,h⟩:=h;refine xQ Y (KY Vx Y Y fX Y) (va Y (va Y (nV (rT results92 Y Y (?_)))));refine vm Y (ve Y (ve Y (va Y (va Y (nY (wS (vm Y (xQ Y (I6 underlying28 Y Y Y Y) (nS ?_)))))))));refine GW Y Y (jS (wS (vm Y (vp Y (xQ Y (L4 Nz Y) (xQ Y (UQ (v:=iI (c0 (1+(bv.toNat*3)))) Y GF mH (by have:=fX;omega) (Yt (TU (j:=bv.toNat) (r:=0) U D Y))) (xQ Y (GI Y Y) (nS (wd Y h (fun cb h=>?_) fun cb h=>?_)))))))))
   .refine wS (xQ Y (HE Y underlying86 Y) (va Y (va Y (nU ?_))));subst h
    exact rT results45 Y Y (⟨[[(p0,_)]],Y,KV,Y,Y⟩)
   .refine jW (vm Y (vp Y (xQ Y (L4 Nz Y) (xQ Y (UQ (v:=iI (c0 (1+(bv.toNat*3)))) Y GF mH (by have:=fX;omega) (Yt (TU (j:=bv.toNat) (r:=0) U D Y))) (va Y (va Y (nV ?_)))))));subst h
    exact rT results45 Y Y (⟨[[(p0,_)]],Y,KV,Y,Y⟩)
theorem Aar {c0 bv jx p0} (w) (hC:Has w (cat [[(p0,BK 28 (mv (II 1 3 (kS [2])) c0) 130)]])) (r) (h:Na c0 bv jx (Eq r)):Con prog 62 #[.pointer (some ⟨p0,0,none⟩),iI bv,iI jx] w (IF fun v Ls=>Cov w (cat [[(p0,BK 28 (mv (II 1 3 (kS [2])) c0) 130)]]) (cat Ls)/\v=I8 86 r.1/\Ls=[[(p0,BK 28 (mv (II 1 3 (kS [2])) r.2) 130)]]):=by
 unfold Na at h;refine ce func62 Y ntmps62 Y (Ni hC ((p0,_)::([])) Y (wS (va Y (nR (vm Y (vm Y (KO Y AfA Y func92 Y ntmps92 Y (wS ?_))))))));refine va Y (va Y (nY (wS (vm Y (xQ Y (HP underlying79 Y Y Y Y) (nS (GW Y Y (jT ?_))))))));refine Gu (Gu (wk [0,1] Y [(18,.bool ((decide (bv<1))||(decide (c0 0<bv))))] ?_ ?_))
 .refine Gr (vm Y (xQ Y (G6 Y Y) (vm Y (IY 11 Y (fun bB=>?_) fun bB=>?_))))
  .exact Ma bB
  .exact vm Y (vm Y (vp Y (Xf Qt Y Y (Xi (c0 0) GF Y Y (xQ Y (Hz Y Y) (Ma bB))))))
 .refine Gt (wb Y h (fun bA h=>?_) fun bA h=>?_)
  .refine wS (xQ Y (HE Y underlying86 Y) (va Y (va Y (nU (rT results92 Y Y (?_))))));refine vm Y (ve Y (ve Y (va Y (va Y (nY (Gz (wS (vm Y (xQ Y (I6 underlying28 Y Y Y Y) (va Y ?_))))))))));refine nS (GQ Y Y (wS (vm Y (va Y (nV (GB (Gx ?_)))))));subst h
   exact rO results62 Y (⟨[[(p0,_)]],Y,KV,Y,Y⟩)
  .refine jW (vm Y (vm Y (vp Y (Xf OW Y Y ?_))));obtain⟨fX,h⟩:=h;refine xQ Y (KY Vx Y Y fX Y) (va Y (va Y (nV (rT results92 Y Y (?_)))));refine vm Y (ve Y (ve Y (va Y (va Y (nY (Gz (wS (vm Y (xQ Y (I6 underlying28 Y Y Y Y) (va Y ?_))))))))));refine nS (GW Y Y (Gu (wk [2,7] Y [(19,.bool ((decide (jx<0))||(decide (1099511627776<jx))))] ?_ ?_)))
   .refine Gr (vm Y (xQ Y (G6 Y Y) (vm Y (IY 22 Y (fun cb=>?_) fun cb=>?_))))
    .exact vs Y (vs Y (vt Y (va Y (P2 bA cb))))
    .exact vm Y (xQ Y (Hz Y Y) (vf Y (va Y (P2 bA cb))))
   .refine Gt (wb Y h (fun dU h=>?_) fun dU h=>?_)
    .refine wS (xQ Y (HE Y underlying86 Y) (va Y (nV (GB (Gx ?_)))));subst h
     exact rO results62 Y (⟨[[(p0,_)]],Y,KV,Y,Y⟩)
    .refine wS (vm Y (vp Y (xQ Y (L4 R4 Y) (xQ Y (UQ (v:=.bool (nz (c0 ((1+(bv.toNat*3))+2)))) Y Om mH (by have:=fX;omega) (ZO (TU (j:=bv.toNat) (r:=2) U D Y))) (va Y (nS (wb Y h (fun ct h=>?_) fun ct h=>?_)))))))
     .refine wS (xQ Y (HE Y underlying86 Y) (va Y (nV (GB (Gx ?_)))));subst h
      exact rO results62 Y (⟨[[(p0,_)]],Y,KV,Y,Y⟩)
     .refine GY (GZ 0 (qW (vm Y (vm Y (vm Y (vp Y (xQ Y (L4 R4 Y) (xZ Y (AdD Y Y Om mH (by have:=fX;omega) (TU (j:=bv.toNat) (r:=2) U D Y) uH) (vp Y (xQ Y (L4 Abg Y) (xZ Y (SW Y Y GF mH (by have:=fX;omega) (TU (j:=bv.toNat) (r:=1) U D Y) uH) ?_)))))))))));refine nR (va Y (nV ?_));subst h
      exact rO results62 Y (⟨[[(p0,_)]],Y,KV,Y,Y⟩)
theorem VL {c0 bv p0} (w) (hC:Has w (cat [[(p0,BK 28 (mv (II 1 3 (kS [2])) c0) 130)]])) (r) (h:Kl c0 bv (Eq r)):Con prog 66 #[.pointer (some ⟨p0,0,none⟩),iI bv] w (IF fun v Ls=>Cov w (cat [[(p0,BK 28 (mv (II 1 3 (kS [2])) c0) 130)]]) (cat Ls)/\v=.bool r/\Ls=[[(p0,BK 28 (mv (II 1 3 (kS [2])) c0) 130)]]):=by
 unfold Kl at h;refine ce func66 Y ntmps66 Y (Ni hC ((p0,_)::([])) Y (wS (va Y (nR (vm Y (vm Y (KO Y AfA Y func92 Y ntmps92 Y (wS ?_))))))));refine va Y (va Y (nY (wS (vm Y (xQ Y (HP underlying79 Y Y Y Y) (nS (GW Y Y (jT ?_))))))));refine Gu (Gu (wk [0,1] Y [(18,.bool ((decide (bv<1))||(decide (c0 0<bv))))] ?_ ?_))
 .refine Gr (vm Y (xQ Y (G6 Y Y) (vm Y (IY 11 Y (fun bB=>?_) fun bB=>?_))))
  .exact Ma bB
  .exact vm Y (vm Y (vp Y (Xf Qt Y Y (Xi (c0 0) GF Y Y (xQ Y (Hz Y Y) (Ma bB))))))
 .refine Gt (wb Y h (fun bA h=>?_) fun bA h=>?_)
  .refine wS (xQ Y (HE Y underlying86 Y) (va Y (va Y (nU (rT results92 Y Y (?_))))));refine vm Y (ve Y (ve Y (va Y (va Y (nY (wk [4] Y [] ?_ ?_))))))
   .exact Gr (vm Y (xQ Y (HP underlying28 Y Y Y Y) (vm Y (vs Y (vs Y (vs Y (vs Y (vs Y (vf Y (va Y (Gw (Mv ((sl Y)) (fun _ h=>h)))))))))))))
   .refine Gt (Hl ?_);subst h
    exact rO results66 Y (⟨[[(p0,_)]],Y,KV,Y,Y⟩)
  .refine jW (vm Y (vm Y (vp Y (Xf OW Y Y ?_))));obtain⟨fX,h⟩:=h;refine xQ Y (KY Vx Y Y fX Y) (va Y (va Y (nV (rT results92 Y Y (?_)))));refine vm Y (ve Y (ve Y (va Y (va Y (nY (wk [] Y [(4,.bool (!((nz (c0 ((1+(bv.toNat*3))+2))))))] ?_ ?_))))))
   .exact Gr (vm Y (xQ Y (HP underlying28 Y Y Y Y) (vm Y (vm Y (vp Y (xQ Y (L4 R4 Y) (xQ Y (UQ (v:=.bool (nz (c0 ((1+(bv.toNat*3))+2)))) Y Om mH (by have:=fX;omega) (ZO (TU (j:=bv.toNat) (r:=2) U D Y))) (xQ Y (Hh Y) (vt Y (va Y (Ma bA)))))))))))
   .refine Gt (Hl ?_);subst h
    exact rO results66 Y (⟨[[(p0,_)]],Y,KV,Y,Y⟩)
theorem AcH {c0 fL eu p0} (w) (hC:Has w (cat [[(p0,BK 28 (mv (II 1 3 (kS [2])) c0) 130)]])) (r) (h:Um c0 fL eu r):Con prog 63 #[.pointer (some ⟨p0,0,none⟩),iI fL,iI eu] w (IF fun v Ls=>Cov w (cat [[(p0,BK 28 (mv (II 1 3 (kS [2])) c0) 130)]]) (cat Ls)/\∃ (u0:Value) (C0:GH),v=u0/\Ls=[[(p0,BK 28 (mv (II 1 3 (kS [2])) c0) 130)],C0]/\OJ 3 1 ic C0 u0 r/\Cov w [] C0):=by
 unfold Um at h;refine ce func63 Y ntmps63 Y (Ni hC ((p0,_)::([])) Y (wS (va Y (nR (va Y (nY (Gu ?_)))))));refine wk [0,1,2,7] Y [(23,.bool (((decide (fL<0))||(decide (1099511627776<fL)))||(decide (eu<0))))] ?_ ?_
 .refine Gr (vm Y (xQ Y (HP underlying79 Y Y Y Y) (vm Y (vm Y (xQ Y (G6 Y Y) (vf Y (vm Y (IY 16 Y (fun bB=>?_) fun bB=>?_))))))))
  .exact Ma bB
  .refine vm Y (xQ Y (Hz Y Y) (vf Y (vm Y (IY 20 Y (fun bA=>?_) fun bA=>?_))))
   .exact P2 bB bA
   .exact vm Y (xQ Y (G6 Y Y) (P2 bB bA))
 .refine Gt (wb Y h (fun cx h=>?_) fun cx h=>?_)
  .refine wS (va Y (nU ?_));subst h
   exact rO results63 Y (⟨[[(p0,_)],[]],Y,KV,_,[],Y,Y,OJ.nil,Cov.refl _⟩)
  .refine jS (wS (vm Y (vp Y (Xf OW Y Y (xQ Y (Nv (f:=mv (II 0 3 (kS [2])) (fun i=>c0 (1+i))) Y Af4 mH U (W8 D)) (vm Y (nS (Gz ?_))))))));obtain⟨eQ,fq,h⟩:=h;refine xL (fun s e H=>match s with | (eQ,j4)=>∃ lH j3,e=[(1,iI fL),(2,iI eu),(7,lH),(27,AG 27 (mv (II 0 3 (kS [2])) (fun i=>c0 (1+i)))),(28,iI j4)]/\H=j3++((p0,BK 28 (mv (II 1 3 (kS [2])) c0) 130)::([]))/\OJ 3 1 ic j3 lH eQ/\Cov w [] j3) (fun(eQ:(List Int)) ex e H=>∃ lG jG,ex=.exit 0/\e=[(7,lG)]/\H=jG++((p0,BK 28 (mv (II 1 3 (kS [2])) c0) 130)::([]))/\OJ 3 1 ic jG lG eQ/\Cov w [] jG) fq ⟨_,[],Y,Y,OJ.nil,KV⟩ ?_ ?_
   .rintro⟨eQ,j4⟩ o _ _ ⟨lH,j3,rfl,rfl,nw,jN⟩ hb;have h:Oc c0 fL eu eQ j4 o:=hb
    clear hb;unfold Oc at h;refine wS (xQ Y (G6 Y Y) (nY (wd Y h (fun cb h=>?_) fun cb h=>?_)))
    .refine jS (Gz (wS ?_));obtain⟨eY,h⟩:=h;refine xQ Y (AdI (j:=j4.toNat) (h:=mv (kS [2]) (fun i=>(fun i=>c0 (1+i)) ((j4.toNat*3)+i))) Vx Y Y eY Y D (W8 (fun i hi=>TU (j:=j4.toNat) (r:=i) U hi Y))) (xr Y (H8 Af1 Y) ?_);rintro _ _ ⟨b9,yE,rfl,rfl⟩;refine xZ Y (TG Y Y Af5 (fun _ _=>L5) mH uH) (nY ?_);obtain⟨eX,h⟩:=h;refine wk [1,2,7,9,27,28] Y [(45,.bool ((((nz (c0 (1+((j4.toNat*3)+2)))))&&(!(decide (c0 (1+(j4.toNat*3))=0))))&&(decide (eu<=fL-(c0 (1+((j4.toNat*3)+1)))))))] ?_ ?_
     .refine Gr (Xf R4 Y Y (Xl (.bool (nz (c0 (1+((j4.toNat*3)+2))))) Om Y Y (vm Y (VZ 33 Y (fun dW=>?_) fun dW=>?_))))
      .refine Xf Nz Y Y (Xi (c0 (1+(j4.toNat*3))) GF Y Y (xQ Y (Hr Y Y) (vt Y (vm Y (Ub 38 Y (fun co=>?_) fun co=>?_)))))
       .exact vm Y (Xf Abg Y Y (Xi (c0 (1+((j4.toNat*3)+1))) GF Y Y (xQ Y (Ke Y Y Y (eX (Za (nT1 co) cb dW co))) (vm Y (xQ Y (Ie Y Y) (Ng cb dW co))))))
       .exact Ng cb dW co
      .exact P2 cb dW
     .refine Gt (wb Y h (fun cQ h=>?_) fun cQ h=>?_)
      .refine Gr (vm Y (Xf Nz Y Y (Xi (c0 (1+(j4.toNat*3))) GF Y Y (xr Y (Ho HY VU (HD Y) Y Y (.int Y Y (.nil _))) ?_))));rintro _ _ ⟨F6,Fq,rfl,rfl⟩;obtain⟨dy,h⟩:=h;refine xr Y (OT.st (fun _ h=>Pull.st (qC (qC qH)) h) (Hj (l:=eQ) (l':=[c0 (1+(j4.toNat*3))]) (B:=j3) Ri Y Y nw (fun w2 cC=>(JH 1 (l:=[c0 (1+(j4.toNat*3))]) cC (mR mH) Y Y AJ)) (fun _ _=>Y) dy (G2 dy D))) ?_;rintro iQ _ ⟨eI,rfl,p4,dP⟩;have cH:=Cov.trans jN p4
       refine G0 ((F6,_)::((b9,_)::(eI++((p0,_)::([]))))) (fun _ h=>Pull.push (qC (qC qH)) h) (va Y (Gw (GZ 1 (Gt (Gr ?_)))));obtain⟨hU,h⟩:=h;exact xQ Y (Hk Y Y Y hU) (vm Y (Gw (xN h ⟨iQ,eI,Y,Y,dP,cH⟩)))
      .refine GY (GZ 1 (Gt (Gr ?_)));obtain⟨ek,h⟩:=h;exact xQ Y (Hk Y Y Y ek) (vm Y (Gw (xN h ⟨lH,j3,Y,Y,nw,jN⟩)))
    .exact GJ (Gs (xO h ⟨lH,j3,Y,Y,Y,nw,jN⟩))
   .rintro _ _ _ ⟨lG,jG,rfl,rfl,rfl,rm,rB⟩;replace h:Qw eQ r:=h;unfold Qw at h;refine GD (qW (vm Y ?_));obtain⟨eb,h⟩:=h;refine xr Y (OT.st (fun _ h=>h) (GC (Cs:=[jG]) (Rs:=[[(p0,_)]]) Aiv Y (fun w1 br=>AgG rm (St.hasC br) eb) (fun _ _ _ h=>h.1))) ?_;rintro _ _ ⟨w1,_,rfl,hle,-,rfl,dN,rfl,ei,cN⟩;replace cN:=Cov.trans rB (Cov.base (w0:=w) cN hle);refine G0 (dN++((p0,_)::([]))) (fun _ h=>h) (nR (vm Y (va Y (nV ?_))));subst h
    exact yA results63 Y (cat [[(p0,_)],dN]) PK (⟨_,Y,KV,_,_,Y,Y,ei,cN⟩)
end Go.Proofs.YtljklmlodfbdnaaGreat
namespace Go.Proofs.YtljklmlodfbdnaaGreat
open Go Go.E Go.Proofs.Tryz
theorem Ade {al ac ab ad ag ae ai ak aa af ah aj bE d4 m3 dJ cR dh lK} (w) (ci:SL w 1 ic dJ aa) (bV:SL w 1 ic cR af) (bU:SL w 1 ic dh ah) (bY:SL w 5 iv lK aj) (r) (h:Pn al ac ab ad ag ae ai ak aa af ah aj bE d4 m3 (Eq r)):Con prog 51 #[AG 13 (cl (An al ac ab ad (ag) ae ai ak dJ cR dh lK)),iI bE,AI 2 d4,iI m3] w (fun v F=>∃ (dD cB cA cz u1:Value) (fj dw dv du C1:GH),v=.tuple #[AG 13 (cl (An r.1.1 r.1.2.1 r.1.2.2.1 r.1.2.2.2.1 (r.1.2.2.2.2.1) r.1.2.2.2.2.2.1 r.1.2.2.2.2.2.2.1 r.1.2.2.2.2.2.2.2.1 dD cB cA cz)),u1,I8 86 r.2.2]/\F=(fj++(dw++(dv++(du++(C1++[])))))/\OJ 3 1 ic fj dD r.1.2.2.2.2.2.2.2.2.1/\Cov w [] fj/\OJ 3 1 ic dw cB r.1.2.2.2.2.2.2.2.2.2.1/\Cov w [] dw/\OJ 3 1 ic dv cA r.1.2.2.2.2.2.2.2.2.2.2.1/\Cov w [] dv/\OJ 104 5 iv du cz r.1.2.2.2.2.2.2.2.2.2.2.2/\Cov w [] du/\OJ 45 28 iv C1 u1 r.2.1/\Cov w [] C1):=by
 unfold Pn at h;refine ce func51 Y ntmps51 Y (wS (xr Y (HA (An al ac ab ad (ag) ae ai ak dJ cR dh lK) Y H9) ?_));rintro _ _ ⟨b4,lw,rfl,rfl⟩;refine xr Y (He Y) ?_;rintro _ _ ⟨b6,og,rfl,rfl⟩;refine xr Y (G1 Ao Ij H9) ?_;rintro _ _ ⟨b8,ws,rfl,rfl⟩;refine va Y (va Y (nY (Gu (wk [1,3,4,6,8] Y [(30,.bool (((((decide (bE<1))||(decide (64<bE)))||(!((HQ d4))))||(decide (m3<1)))||(decide (4<m3))))] ?_ ?_))))
 .refine Gr (vm Y (xQ Y (G6 Y Y) (vm Y (IY 14 Y (fun bB=>?_) fun bB=>?_))))
  .exact Ma bB
  .refine vm Y (xQ Y (Hz Y Y) (vf Y (vm Y (IY 18 Y (fun bA=>?_) fun bA=>?_))))
   .exact P2 bB bA
   .refine xQ Y (GA Y I4 (mT mH)) (xc Y Ag4 Y (fun w1 br=>SP w1 _ (UC)) (xQ Y (Hh Y) (vf Y (vm Y (QC 23 Y (fun cx=>?_) fun cx=>?_)))))
    .exact Ng bB bA cx
    .refine vm Y (xQ Y (G6 Y Y) (vf Y (vm Y (IY 27 Y (fun cb=>?_) fun cb=>?_))))
     .exact V2 bB bA cx cb
     .exact vm Y (xQ Y (Hz Y Y) (V2 bB bA cx cb))
 .refine Gt (wb Y h (fun dU h=>?_) fun dU h=>?_)
  .refine wS (xQ Y (GA Y GP (mT (mT mH))) ?_);obtain⟨eX,h⟩:=h;refine Ir Y trivial Xn Y (fun w1 br=>Mf w1 (ci.keep br FR) (bV.keep br FR) (bU.keep br FR) (bY.keep br FR) _ (OI eX)) ?_;rintro w1 _ _ br ⟨y5,qu,r9,iQ,wP,ku,gQ,eI,rfl,rfl,lj,fZ,fh,db,fw,fk,dP,cH⟩;refine⟨_,Mg.news (Cov.fresh fZ) (Mg.news (Cov.fresh db) (Mg.news (Cov.fresh fk) (Mg.news (Cov.fresh cH) (.nil _)))),?_⟩;replace fZ:=Cov.base (w0:=w) fZ br.size;replace db:=Cov.base (w0:=w) db br.size;replace fk:=Cov.base (w0:=w) fk br.size;replace cH:=Cov.base (w0:=w) cH br.size;refine xQ Y (HE Y underlying86 Y) (xZ Y (GS Y Y GP Y ON (mR (mR (mR (mR mH)))) (Upd.seg (Upd.seg (Upd.seg (Upd.seg uH))))) (va Y (va Y (nU ?_))));subst h
   exact O5 results51 Y GP (mR (mR (mR (mR mH)))) Y Y _ KP (⟨_,_,_,_,_,wP,ku,gQ,eI,[],Y,Y,lj,fZ,fh,db,fw,fk,dP,cH,OJ.nil,Cov.refl _⟩)
  .refine jS (wS (xQ Y (GA Y GP (mT (mT mH))) (xc Y AhZ Y (fun w1 br=>V8 w1 (ci.keep br FR) (bV.keep br FR) (bU.keep br FR) (bY.keep br FR) _ (X8)) (va Y (nR (vm Y (xQ Y (IS underlying28 Y (fun _=>Y) Y Y) ?_)))))));refine nS (wn Y h (fun dz h=>?_) fun dz h=>?_)
   .refine wS (xQ Y (GA Y GP (mT (mT mH))) ?_);obtain⟨hU,h⟩:=h;refine Ir Y trivial Xn Y (fun w1 br=>Mf w1 (ci.keep br FR) (bV.keep br FR) (bU.keep br FR) (bY.keep br FR) _ (OI hU)) ?_;rintro w1 _ _ br ⟨lf,sb,kx,ly,gr,j0,dN,gg,rfl,rfl,fa,eR,iP,dY,ei,cN,fm,dX⟩;refine⟨_,Mg.news (Cov.fresh eR) (Mg.news (Cov.fresh dY) (Mg.news (Cov.fresh cN) (Mg.news (Cov.fresh dX) (.nil _)))),?_⟩;replace eR:=Cov.base (w0:=w) eR br.size;replace dY:=Cov.base (w0:=w) dY br.size;replace cN:=Cov.base (w0:=w) cN br.size;replace dX:=Cov.base (w0:=w) dX br.size;refine vm Y (xZ Y (GS Y Y GP Y ON (mR (mR (mR (mR mH)))) (Upd.seg (Upd.seg (Upd.seg (Upd.seg uH))))) (va Y (va Y (nU ?_))));subst h
    exact O5 results51 Y GP (mR (mR (mR (mR mH)))) Y Y _ KP (⟨_,_,_,_,_,gr,j0,dN,gg,[],Y,Y,fa,eR,iP,dY,ei,cN,fm,dX,OJ.nil,Cov.refl _⟩)
   .refine jS (wS (Xf PQ Y Y (Xi ad GF Y Y (xQ Y (GI Y Y) (nS (wd Y h (fun cn h=>?_) fun cn h=>?_))))))
    .refine wS (xQ Y (GA Y GP (mT (mT mH))) ?_);obtain⟨gc,h⟩:=h;refine Ir Y trivial Xn Y (fun w1 br=>Mf w1 (ci.keep br FR) (bV.keep br FR) (bU.keep br FR) (bY.keep br FR) _ (OI gc)) ?_;rintro w1 _ _ br ⟨jH,oP,kw,sC,ef,eN,gq,nH,rfl,rfl,dV,cO,fl,dq,fJ,df,oC,gC⟩;refine⟨_,Mg.news (Cov.fresh cO) (Mg.news (Cov.fresh dq) (Mg.news (Cov.fresh df) (Mg.news (Cov.fresh gC) (.nil _)))),?_⟩;replace cO:=Cov.base (w0:=w) cO br.size;replace dq:=Cov.base (w0:=w) dq br.size;replace df:=Cov.base (w0:=w) df br.size;replace gC:=Cov.base (w0:=w) gC br.size;refine xQ Y (HE Y underlying86 Y) (xZ Y (GS Y Y GP Y ON (mR (mR (mR (mR mH)))) (Upd.seg (Upd.seg (Upd.seg (Upd.seg uH))))) (va Y (va Y (nU ?_))));subst h
     exact O5 results51 Y GP (mR (mR (mR (mR mH)))) Y Y _ KP (⟨_,_,_,_,_,ef,eN,gq,nH,[],Y,Y,dV,cO,fl,dq,fJ,df,oC,gC,OJ.nil,Cov.refl _⟩)
    .refine jW (xQ Y (GA Y GP (mT (mT mH))) ?_);obtain⟨kE,h⟩:=h;refine Ir Y trivial Xn Y (fun w1 br=>Mf w1 (ci.keep br FR) (bV.keep br FR) (bU.keep br FR) (bY.keep br FR) _ (OI kE)) ?_;rintro w1 _ _ br ⟨sa,xz,qv,ww,jl,jD,g9,jk,rfl,rfl,gU,ed,jg,fN,gj,ez,jF,gf⟩;refine⟨_,Mg.news (Cov.fresh ed) (Mg.news (Cov.fresh fN) (Mg.news (Cov.fresh ez) (Mg.news (Cov.fresh gf) (.nil _)))),?_⟩;replace ed:=Cov.base (w0:=w) ed br.size;replace fN:=Cov.base (w0:=w) fN br.size;replace ez:=Cov.base (w0:=w) ez br.size;replace gf:=Cov.base (w0:=w) gf br.size;refine xZ Y (GS Y Y GP Y ON (mR (mR (mR (mR (mT (mT mH)))))) (Upd.seg (Upd.seg (Upd.seg (Upd.seg (uT (uT uH))))))) (nR (Xf PQ Y Y (Xi ad GF Y Y ?_)));obtain⟨iS,h⟩:=h;refine xQ Y (Hk Y Y Y iS) (Xf PQ Y Y (xZ Y (Ha Y Y GF Y (mR (mR (mR (mR (mT (mT mH)))))) Y (pT (pT (pT pH))) (Upd.seg (Upd.seg (Upd.seg (Upd.seg (uT (uT uH))))))) (nY (GK Z Z (fun hok=>?_)))));refine Bm hok 0 Y Z Y (Bw I4 hok 1 Y Z Y (mR (mR (mR (mR (mT mH))))) (Bm hok 2 Y Z Y (Bf Lu hok 3 Y Z Y (LI hok 4 [(56,_)] Y Y Z (lc Y ln) Z trivial (Ha Y Y Om Y (mR (mR (mR (mR (mT (mT mH)))))) Y (pT (pT (pT (pT pH)))) (Upd.seg (Upd.seg (Upd.seg (Upd.seg (uT (uT uH))))))) ?_))));rintro _ _ ⟨rfl,rfl⟩;refine⟨RA,KM,?_⟩;refine Bf Vp hok 5 Y Z Y (LI hok 6 [(57,_),(53,_)] Y Y Z (lc Y (lc Y ln)) Z trivial (Ha Y Y GF Y (mR (mR (mR (mR (mT (mT mH)))))) Y (pT (pT (pT (pT (pT pH))))) (Upd.seg (Upd.seg (Upd.seg (Upd.seg (uT (uT uH))))))) ?_);rintro _ _ ⟨rfl,rfl⟩;refine⟨RA,KM,?_⟩;refine Bf Tm hok 7 Y Z Y (LI hok 8 [(58,_),(54,_)] Y Y Z (lc Y (lc Y ln)) Z trivial (AdE (l':=(An al ac ab (ad+1) true bE d4 ak sa xz qv ww)) Y Y I4 (fun _ _=>Y) (mR (mR (mR (mR (mT (mT mH)))))) D H9 (Upd.seg (Upd.seg (Upd.seg (Upd.seg (uT (uT uH))))))) ?_);rintro _ _ ⟨rfl,rfl⟩;refine⟨RA,KM,?_⟩;refine Bf Aaa hok 9 Y Z Y (HF hok 0 10 [(59,_),(55,_)] Y Y Z Z (lc Y (lc Y ln)) Z trivial (Ha Y Y NA Y (mR (mR (mR (mR (mT (mT mH)))))) Y (pT (pT (pT (pT (pT (pT (pT (pT pH)))))))) (Upd.seg (Upd.seg (Upd.seg (Upd.seg (uT (uT uH))))))) ?_);rintro _ _ ⟨rfl,rfl⟩;refine⟨KM,?_⟩;refine GM hok Z (qW (Xf Ji Y Y (Xl (sa) HX Y Y (vm Y (KO Y Ag3 Y func96 Y ntmps96 Y (wS (va Y (nY ?_))))))));refine Gr (vm Y (vm Y ?_));obtain⟨li,h⟩:=h;refine xc Y Aeh Y (fun w1 br=>QQ w1 (gU.sl br SG) _ (SF li)) (vm Y (ve Y (ve Y (va Y (va Y (nY (wS (vm Y (nS ?_)))))))));refine wb Y h (fun yn h=>?_) fun yn h=>?_
     .refine wS (vm Y (va Y (nU (rO results96 Y (?_)))));refine Xf Ji Y Y (xZ Y (Ha Y Y HX (GL (OJ.val gU)) (mR (mR (mR (mR (mT (mT mH)))))) Y (pT (pT (pT (pT (pT (pT (pT (pT (pT pH))))))))) (Upd.seg (Upd.seg (Upd.seg (Upd.seg (uT (uT uH))))))) (nY (GK Z Z (fun hok=>?_))));refine Bw GP hok 0 Y Z Y (mR (mR (mR (mR (mT (mT mH)))))) (Bw GP hok 1 Y Z Y (mR (mR (mR (mR (mT (mT mH)))))) (NN hok 2 [66] (jl++(jD++(g9++(jk++([]))))) (Md SG (Md SG (Md SG (Md SG Nd)))) Y Z (fun _ hy hK=>JW Ag2 Y (fun w1 br=>Sx w1 (gU.sl br (SH hy)) (jg.sl br (SH hy)) (gj.sl br (SH hy)) (jF.sl br (SH hy)) _ (Us))) (Si hok 3 4 [(67,_)] [(8,_),(65,_)] Y Y Y Y Z (lc Y ln) (lc Y (lc Y ln)) Z Z trivial trivial (Ho Re Lf Y Y Y (.ints Y Y (.nil _))) (GS Y Y GP Y ON (mR (mR (mR (mR mH)))) (Upd.seg (Upd.seg (Upd.seg (Upd.seg uH))))) ?_ ?_)))
      .rintro _ _ ⟨pL,rj,rfl,rfl⟩;refine⟨RA,KM,?_⟩;refine LI hok 4 [(8,_),(65,_)] Y Y Z (lc Y (lc Y ln)) Z trivial (GS Y Y GP Y ON (mT (mR (mR (mR (mR mH))))) (uT (Upd.seg (Upd.seg (Upd.seg (Upd.seg uH)))))) ?_;rintro _ _ ⟨rfl,rfl⟩;refine⟨RA,KM,?_⟩;refine Ba hok 5 Y Z Y (Ba hok 6 Y Z Y (GM hok Z (Gt (Hl ?_))));subst h
       exact O5 results51 Y GP (mT (mR (mR (mR (mR mH))))) Y Y _ PK (⟨_,_,_,_,_,jl,jD,g9,jk,[(pL,_)],Y,Y,gU,ed,jg,fN,gj,ez,jF,gf,(LR 1 (l:=[(IX al ac ab (ad+1) true bE d4 m3 aa af ah aj)]) mH Y Y AJ),KV⟩)
      .rintro _ _ ⟨rfl,rfl⟩;refine⟨RA,KM,?_⟩;refine GV hok 3 [(67,_)] Y Y Z (lc Y ln) Z trivial (Ho Re Lf Y Y Y (.ints Y Y (.nil _))) ?_;rintro _ _ ⟨pL,rj,rfl,rfl⟩;refine⟨RA,KM,?_⟩;refine Ba hok 5 Y Z Y (Ba hok 6 Y Z Y (GM hok Z (Gt (Hl ?_))));subst h
       exact O5 results51 Y GP (mT (mR (mR (mR (mR mH))))) Y Y _ PK (⟨_,_,_,_,_,jl,jD,g9,jk,[(pL,_)],Y,Y,gU,ed,jg,fN,gj,ez,jF,gf,(LR 1 (l:=[(IX al ac ab (ad+1) true bE d4 m3 aa af ah aj)]) mH Y Y AJ),KV⟩)
     .refine jW (vm Y ?_);obtain⟨oW,h⟩:=h;refine Ir Y trivial V0 Y (fun w1 br=>Jm w1 (gU.sl br SG) _ (JP oW)) ?_;rintro w1 oO _ br ⟨_,gR,rfl,rfl,gI,ey⟩;refine⟨_,Mg.news (Cov.fresh ey) (.nil _),?_⟩;replace ey:=Cov.base (w0:=w) ey br.size;refine vm Y (vm Y (xr Y (Ho HY VU (HD Y) Y Y (.int Y Y (.nil _))) ?_));rintro _ _ ⟨r5,AH,rfl,rfl⟩;obtain⟨jz,h⟩:=h;obtain⟨oU,h⟩:=h;refine xr Y (OT.st (fun _ h=>St.permJ [1,0,2,3,4,5,6,7,8] [[(r5,_)],gR,jl,jD,g9,jk,[(b8,_)],[(b6,_)],[(b4,_)]] h) (GC (Cs:=[gR]) (Rs:=[[(r5,_)],jl,jD,g9,jk,[(b8,_)],[(b6,_)],[(b4,_)]]) Aeg Y (fun w1 br=>PV Ag1 (x:=bE) gI br mH Y jz oU) (fun _ _ _ h=>h.1))) ?_;rintro BZ _ ⟨w1,_,rfl,hle,-,ru,rfl,oz,iY⟩;replace iY:=Cov.trans ey (Cov.base (w0:=w) iY hle);refine G0 (ru++((r5,_)::(jl++(jD++(g9++(jk++((b8,_)::((b6,_)::((b4,_)::([])))))))))) (fun _ h=>h) (va Y (nV (rO results96 Y (?_))));refine Xf Ji Y Y (xZ Y (Ha Y Y HX (GL (OJ.val oz)) (mR (mT (mR (mR (mR (mR (mT (mT mH)))))))) Y (pT (pT (pT (pT (pT (pT (pT (pT (pT pH))))))))) (Upd.seg (uT (Upd.seg (Upd.seg (Upd.seg (Upd.seg (uT (uT uH))))))))) (nY (GK Z Z (fun hok=>?_))));refine Bw GP hok 0 Y Z Y (mR (mT (mR (mR (mR (mR (mT (mT mH)))))))) (Bw GP hok 1 Y Z Y (mR (mT (mR (mR (mR (mR (mT (mT mH)))))))) (NN hok 2 [66] (ru++(jD++(g9++(jk++([]))))) (Md SG (Md SG (Md SG (Md SG Nd)))) Y Z (fun _ hy hK=>JW Ag2 Y (fun w1 br=>Sx w1 (oz.sl br (SH hy)) (jg.sl br (SH hy)) (gj.sl br (SH hy)) (jF.sl br (SH hy)) _ (Us))) (Si hok 3 4 [(67,_)] [(8,_),(65,_)] Y Y Y Y Z (lc Y ln) (lc Y (lc Y ln)) Z Z trivial trivial (Ho Re Lf Y Y Y (.ints Y Y (.nil _))) (GS Y Y GP Y ON (mR (mT (mR (mR (mR (mR mH)))))) (Upd.seg (uT (Upd.seg (Upd.seg (Upd.seg (Upd.seg uH))))))) ?_ ?_)))
      .rintro _ _ ⟨pL,rj,rfl,rfl⟩;refine⟨RA,KM,?_⟩;refine LI hok 4 [(8,_),(65,_)] Y Y Z (lc Y (lc Y ln)) Z trivial (GS Y Y GP Y ON (mT (mR (mT (mR (mR (mR (mR mH))))))) (uT (Upd.seg (uT (Upd.seg (Upd.seg (Upd.seg (Upd.seg uH)))))))) ?_;rintro _ _ ⟨rfl,rfl⟩;refine⟨RA,KM,?_⟩;refine Ba hok 5 Y Z Y (Ba hok 6 Y Z Y (GM hok Z (Gt (Hl ?_))));subst h
       exact O5 results51 Y GP (mT (mR (mT (mR (mR (mR (mR mH))))))) Y Y _ PK (⟨_,_,_,_,_,ru,jD,g9,jk,[(pL,_)],Y,Y,oz,iY,jg,fN,gj,ez,jF,gf,(LR 1 (l:=[(IX al ac ab (ad+1) true bE d4 m3 (Iw (G3 aa) ((Hd aa bE).1).toNat bE) af ah aj)]) mH Y Y AJ),KV⟩)
      .rintro _ _ ⟨rfl,rfl⟩;refine⟨RA,KM,?_⟩;refine GV hok 3 [(67,_)] Y Y Z (lc Y ln) Z trivial (Ho Re Lf Y Y Y (.ints Y Y (.nil _))) ?_;rintro _ _ ⟨pL,rj,rfl,rfl⟩;refine⟨RA,KM,?_⟩;refine Ba hok 5 Y Z Y (Ba hok 6 Y Z Y (GM hok Z (Gt (Hl ?_))));subst h
       exact O5 results51 Y GP (mT (mR (mT (mR (mR (mR (mR mH))))))) Y Y _ PK (⟨_,_,_,_,_,ru,jD,g9,jk,[(pL,_)],Y,Y,oz,iY,jg,fN,gj,ez,jF,gf,(LR 1 (l:=[(IX al ac ab (ad+1) true bE d4 m3 (Iw (G3 aa) ((Hd aa bE).1).toNat bE) af ah aj)]) mH Y Y AJ),KV⟩)
theorem QB {al ac ab ad ag ae ai ak aa af ah aj m1 dJ cR dh lK} (w) (ci:SL w 1 ic dJ aa) (bV:SL w 1 ic cR af) (bU:SL w 1 ic dh ah) (bY:SL w 5 iv lK aj) (r) (h:IL al ac ab ad ag ae ai ak aa af ah aj m1 (Eq r)):Con prog 110 #[AG 13 (cl (An al ac ab ad (ag) ae ai ak dJ cR dh lK)),AI 28 m1] w (fun v F=>∃ (dD cB cA cz:Value) (fj dw dv du:GH),v=.tuple #[AG 13 (cl (An r.1.1 r.1.2.1 r.1.2.2.1 r.1.2.2.2.1 (r.1.2.2.2.2.1) r.1.2.2.2.2.2.1 r.1.2.2.2.2.2.2.1 r.1.2.2.2.2.2.2.2.1 dD cB cA cz)),I8 86 r.2]/\F=(fj++(dw++(dv++(du++[]))))/\OJ 3 1 ic fj dD r.1.2.2.2.2.2.2.2.2.1/\Cov w [] fj/\OJ 3 1 ic dw cB r.1.2.2.2.2.2.2.2.2.2.1/\Cov w [] dw/\OJ 3 1 ic dv cA r.1.2.2.2.2.2.2.2.2.2.2.1/\Cov w [] dv/\OJ 104 5 iv du cz r.1.2.2.2.2.2.2.2.2.2.2.2/\Cov w [] du):=by
 unfold IL at h;refine ce func110 Y ntmps110 Y (wS (xr Y (HA (An al ac ab ad (ag) ae ai ak dJ cR dh lK) Y H9) ?_));rintro _ _ ⟨b2,j5,rfl,rfl⟩;refine xr Y (He Y) ?_;rintro _ _ ⟨b3,iU,rfl,rfl⟩;refine xr Y (G1 Ao Ij H9) ?_;rintro _ _ ⟨b4,lw,rfl,rfl⟩;refine va Y (nR (xQ Y (GA Y GP (mT (mT mH))) ?_));obtain⟨gm,h⟩:=h;refine Ir Y trivial Xn Y (fun w1 br=>Mf w1 (ci.keep br FR) (bV.keep br FR) (bU.keep br FR) (bY.keep br FR) _ (OI gm)) ?_;rintro w1 _ _ br ⟨lx,oo,qs,kW,dk,ee,eP,dB,rfl,rfl,gP,dr,gp,dp,jB,fF,g7,dj⟩;refine⟨_,Mg.news (Cov.fresh dr) (Mg.news (Cov.fresh dp) (Mg.news (Cov.fresh fF) (Mg.news (Cov.fresh dj) (.nil _)))),?_⟩;replace dr:=Cov.base (w0:=w) dr br.size;replace dp:=Cov.base (w0:=w) dp br.size;replace fF:=Cov.base (w0:=w) fF br.size;replace dj:=Cov.base (w0:=w) dj br.size;refine xZ Y (GS Y Y GP Y ON (mR (mR (mR (mR (mT (mT mH)))))) (Upd.seg (Upd.seg (Upd.seg (Upd.seg (uT (uT uH))))))) (nY (wS (xQ Y (GA Y GP (mR (mR (mR (mR (mT (mT mH))))))) (xQ Y (GA Y Hm (mR (mR (mR (mR (mT mH)))))) (xr Y (Ho HY VU (HD Y) Y Y (.int Y Y (.int Y Y (.nil _)))) ?_)))));rintro _ _ ⟨BC,DK,rfl,rfl⟩;obtain⟨eX,h⟩:=h;refine xc Y Agf Y (fun w1 br=>V9 w1 (gP.sl br SG) (gp.sl br SG) (jB.sl br SG) (g7.sl br SG) (JH 2 (l:=[2,3]) br mH Y Y AJ) _ (X9 eX)) (va Y (nR (vm Y (xQ Y (IS underlying28 Y (fun _=>Y) Y Y) (nS (wn Y h (fun dW h=>?_) fun dW h=>?_))))))
 .refine wS (xQ Y (GA Y GP (mT (mR (mR (mR (mR (mT (mT mH)))))))) (vm Y (xZ Y (GS Y Y GP Y ON (mT (mR (mR (mR (mR mH))))) (uT (Upd.seg (Upd.seg (Upd.seg (Upd.seg uH)))))) (va Y (nU ?_)))));subst h
  exact VV results110 Y GP (mT (mR (mR (mR (mR mH))))) Y _ KP (⟨_,_,_,_,dk,ee,eP,dB,Y,Y,gP,dr,gp,dp,jB,fF,g7,dj⟩)
 .refine jS (wS (Xf Jj Y Y (Xi ac GF Y Y (xQ Y (Hr Y Y) (nS (wn Y h (fun co h=>?_) fun co h=>?_))))))
  .refine wS (xQ Y (GA Y GP (mT (mR (mR (mR (mR (mT (mT mH)))))))) (xQ Y (HE Y underlying86 Y) (xZ Y (GS Y Y GP Y ON (mT (mR (mR (mR (mR mH))))) (uT (Upd.seg (Upd.seg (Upd.seg (Upd.seg uH)))))) (va Y (nU ?_)))));subst h
   exact VV results110 Y GP (mT (mR (mR (mR (mR mH))))) Y _ KP (⟨_,_,_,_,dk,ee,eP,dB,Y,Y,gP,dr,gp,dp,jB,fF,g7,dj⟩)
  .refine jS (Gu (wk [2,3,4] Y [(50,.bool ((((!(ag))||(!(decide (m1 4=ad))))||(!(decide (m1 1=ae))))||((decide (m1 0=2))&&(!((IJ 2 (fun i=>m1 (5+i)) ai))))))] ?_ ?_))
   .refine Gr (Xf Lu Y Y (Xl (.bool (ag)) Om Y Y (xQ Y (Hh Y) (vm Y (QC 25 Y (fun cQ=>?_) fun cQ=>?_)))))
    .exact Ng dW co cQ
    .refine Xf K9 Y Y (Xi (m1 4) GF Y Y (Xf PQ Y Y (Xi ad GF Y Y (xQ Y (Hr Y Y) (vf Y (vm Y (Ub 32 Y (fun cg=>?_) fun cg=>?_)))))))
     .exact V2 dW co cQ cg
     .refine Xf IE Y Y (Xi (m1 1) GF Y Y (Xf Vp Y Y (Xi ae GF Y Y (xQ Y (Hr Y Y) (vf Y (vm Y (Ub 39 Y (fun dz=>?_) fun dz=>?_)))))))
      .exact VQf dW co cQ cg dz
      .refine Xf G9 Y Y (Xi (m1 0) GF Y Y (xQ Y (GI Y Y) (vm Y (IY 43 Y (fun cX=>?_) fun cX=>?_))))
       .exact Xf Ky Y Y (xQ Y (Jx Y I4 (mT (mR (mR (mR (mR (mT mH)))))) U (fun _ _=>Y)) (Xf Tm Y Y (xQ Y (Nv (f:=iv ai) Y I4 (mT (mR (mR (mR (mR (mT (mT mH))))))) D AJ) (xQ Y (PC Ahn Y Y) (VQg dW co cQ cg dz cX)))))
       .exact VQg dW co cQ cg dz cX
   .refine Gt (wb Y h (fun dL h=>?_) fun dL h=>?_)
    .refine wS (xQ Y (GA Y GP (mT (mR (mR (mR (mR (mT (mT mH)))))))) (xQ Y (HE Y underlying86 Y) (xZ Y (GS Y Y GP Y ON (mT (mR (mR (mR (mR mH))))) (uT (Upd.seg (Upd.seg (Upd.seg (Upd.seg uH)))))) (va Y (nU ?_)))));subst h
     exact VV results110 Y GP (mT (mR (mR (mR (mR mH))))) Y _ KP (⟨_,_,_,_,dk,ee,eP,dB,Y,Y,gP,dr,gp,dp,jB,fF,g7,dj⟩)
    .refine jW (Xf Lu Y Y (xZ Y (Ha Y Y Om Y (mT (mR (mR (mR (mR (mT (mT mH))))))) Y (pT (pT (pT (pT pH)))) (uT (Upd.seg (Upd.seg (Upd.seg (Upd.seg (uT (uT uH)))))))) (nY (wS (Xf G9 Y Y (Xi (m1 0) GF Y Y (xQ Y (GI Y Y) ?_)))))));refine nS (wd Y h (fun dd h=>?_) fun dd h=>?_)
     .refine Gr (Xf OV Y Y (Xl (kW) Sv Y Y (Xf HG Y Y (Xi (m1 3) GF Y Y (Xf K9 Y Y (Xi (m1 4) GF Y Y (Xf Ky Y Y (xQ Y (Jx Y I4 (mT (mR (mR (mR (mR (mT mH)))))) U (fun _ _=>Y)) (Xf J4 Y Y (Xi (m1 7) NA Y Y (xQ Y (Ht Ago Ro (.int Abk Y Y (.int Abj Y Y (.ints Abi Y Y (.int Abh Y Y (.nil _)))))) (xr Y (Ho XG Ro Y Y Y (.ints Y Y (.nil _))) ?_))))))))))));rintro _ _ ⟨pL,rj,rfl,rfl⟩;obtain⟨gB,h⟩:=h;refine xr Y (OT.st (fun _ h=>Pull.st (qC (qC (qT (qT (qT qH))))) h) (Hj (l:=aj) (l':=[(Gq (GX (Gq (Gq (fun _=>0) 0 (m1 3)) 1 (m1 4)) 2 2 (fun i=>m1 (5+i))) 4 (m1 7))]) (B:=dB) Y6 Y Y g7 (fun w2 cC=>(JH 1 (l:=[(Gq (GX (Gq (Gq (fun _=>0) 0 (m1 3)) 1 (m1 4)) 2 2 (fun i=>m1 (5+i))) 4 (m1 7))]) cC (mR mH) Y Y AJ)) (fun _ _=>Y) gB (G2 gB D))) ?_;rintro kx _ ⟨dN,rfl,Ax,ei⟩;have cN:=Cov.trans dj Ax
      refine G0 ((pL,_)::((BC,_)::(dk++(ee++(eP++(dN++((b4,_)::((b3,_)::((b2,_)::([])))))))))) (fun _ h=>Pull.push (qC (qC (qT (qT (qT qH))))) h) (Xf OV Y Y (xZ Y (Ha Y Y Sv (GL (OJ.val ei)) (mT (mT (mR (mR (mR (mR (mT (mT mH)))))))) Y (pT (pT (pT (pT (pT (pT (pT (pT (pT (pT (pT (pT pH)))))))))))) (uT (uT (Upd.seg (Upd.seg (Upd.seg (Upd.seg (uT (uT uH))))))))) (nR (xQ Y (GA Y GP (mT (mT (mR (mR (mR (mR (mT (mT mH))))))))) (xZ Y (GS Y Y GP Y ON (mT (mT (mR (mR (mR (mR mH)))))) (uT (uT (Upd.seg (Upd.seg (Upd.seg (Upd.seg uH))))))) (va Y (nV ?_)))))));subst h
      exact VV results110 Y GP (mT (mT (mR (mR (mR (mR mH)))))) Y _ KP (⟨_,_,_,_,dk,ee,eP,dN,Y,Y,gP,dr,gp,dp,jB,fF,ei,cN⟩)
     .refine jW (xQ Y (GA Y GP (mT (mR (mR (mR (mR (mT (mT mH)))))))) (xZ Y (GS Y Y GP Y ON (mT (mR (mR (mR (mR mH))))) (uT (Upd.seg (Upd.seg (Upd.seg (Upd.seg uH)))))) (va Y (nV ?_))));subst h
      exact VV results110 Y GP (mT (mR (mR (mR (mR mH))))) Y _ KP (⟨_,_,_,_,dk,ee,eP,dB,Y,Y,gP,dr,gp,dp,jB,fF,g7,dj⟩)
end Go.Proofs.YtljklmlodfbdnaaGreat
namespace Go.Proofs.YtljklmlodfbdnaaGreat
open Go Go.E Go.Proofs.Tryz
theorem Ya {aj ab aa ah ae ac af ag ad ai ak al zm zj zh zk} (w) (ci:SL w 1 ic zm ad) (bV:SL w 1 ic zj ai) (bU:SL w 1 ic zh ak) (bY:SL w 5 iv zk al) (r) (h:KE aj ab aa ah ae ac af ag ad ai ak al (Eq r)):Con prog 53 #[AG 13 (cl (An aj ab aa ah (ae) ac af ag zm zj zh zk))] w (fun v F=>∃ (dD cB cA cz u1:Value) (fj dw dv du C1:GH),v=.tuple #[AG 13 (cl (An r.1.1 r.1.2.1 r.1.2.2.1 r.1.2.2.2.1 (r.1.2.2.2.2.1) r.1.2.2.2.2.2.1 r.1.2.2.2.2.2.2.1 r.1.2.2.2.2.2.2.2.1 dD cB cA cz)),u1,I8 86 r.2.2]/\F=(fj++(dw++(dv++(du++(C1++[])))))/\OJ 3 1 ic fj dD r.1.2.2.2.2.2.2.2.2.1/\Cov w [] fj/\OJ 3 1 ic dw cB r.1.2.2.2.2.2.2.2.2.2.1/\Cov w [] dw/\OJ 3 1 ic dv cA r.1.2.2.2.2.2.2.2.2.2.2.1/\Cov w [] dv/\OJ 104 5 iv du cz r.1.2.2.2.2.2.2.2.2.2.2.2/\Cov w [] du/\OJ 45 28 iv C1 u1 r.2.1/\Cov w [] C1):=by
 unfold KE at h;refine ce func53 Y ntmps53 Y (wS (xr Y (HA (An aj ab aa ah (ae) ac af ag zm zj zh zk) Y H9) ?_));rintro _ _ ⟨b1,ko,rfl,rfl⟩;refine xr Y (G1 Ao Ij H9) ?_;rintro _ _ ⟨b2,j5,rfl,rfl⟩;refine va Y (va Y (nR (xQ Y (GA Y GP (mT mH)) ?_)));obtain⟨gm,h⟩:=h;refine Ir Y trivial Xn Y (fun w1 br=>Mf w1 (ci.keep br FR) (bV.keep br FR) (bU.keep br FR) (bY.keep br FR) _ (OI gm)) ?_;rintro w1 _ _ br ⟨lx,oo,qs,kW,dk,ee,eP,dB,rfl,rfl,zf,zb,zg,za,zi,zd,zl,zc⟩;refine⟨_,Mg.news (Cov.fresh zb) (Mg.news (Cov.fresh za) (Mg.news (Cov.fresh zd) (Mg.news (Cov.fresh zc) (.nil _)))),?_⟩;replace zb:=Cov.base (w0:=w) zb br.size;replace za:=Cov.base (w0:=w) za br.size;replace zd:=Cov.base (w0:=w) zd br.size;replace zc:=Cov.base (w0:=w) zc br.size;refine xZ Y (GS Y Y GP Y ON (mR (mR (mR (mR (mT mH))))) (Upd.seg (Upd.seg (Upd.seg (Upd.seg (uT uH)))))) (nY (wS (xQ Y (GA Y GP (mR (mR (mR (mR (mT mH)))))) (xc Y AhZ Y (fun w1 br=>V8 w1 (zf.sl br SG) (zg.sl br SG) (zi.sl br SG) (zl.sl br SG) _ (X8)) (va Y (nR (vm Y ?_)))))));refine xQ Y (IS underlying28 Y (fun _=>Y) Y Y) (nS (wn Y h (fun ct h=>?_) fun ct h=>?_))
 .refine wS (xQ Y (GA Y GP (mR (mR (mR (mR (mT mH)))))) (vm Y (xZ Y (GS Y Y GP Y ON (mR (mR (mR (mR mH)))) (Upd.seg (Upd.seg (Upd.seg (Upd.seg uH))))) (va Y (va Y (nU ?_))))));subst h
  exact O5 results53 Y GP (mR (mR (mR (mR mH)))) Y Y _ KP (⟨_,_,_,_,_,dk,ee,eP,dB,[],Y,Y,zf,zb,zg,za,zi,zd,zl,zc,OJ.nil,Cov.refl _⟩)
 .refine jS (wS (Xf Ji Y Y (Xl (lx) HX Y Y (xQ Y (Hs Y underlying59 Y (OJ.val zf)) (xQ Y (GI Y Y) (nS (wd Y h (fun dW h=>?_) fun dW h=>?_)))))))
  .refine wS (xQ Y (GA Y GP (mR (mR (mR (mR (mT mH)))))) (KO Y Aed Y func99 Y ntmps99 Y (wS (xr Y (HA (An aj ab aa ah (ae) ac af ag lx oo qs kW) Y H9) ?_))));rintro _ _ ⟨b3,iU,rfl,rfl⟩;refine xr Y (G1 Ao Ij H9) ?_;rintro _ _ ⟨b6,og,rfl,rfl⟩;refine va Y (nR (vm Y (vm Y (Xf Jj Y Y (xZ Y (Ha Y Y GF Y (mT mH) Y (pT pH) (uT uH)) (Xf Q9 Y Y (xZ Y (Ha Y Y GF Y (mT mH) Y (pT (pT pH)) (uT uH)) (Xf Lu Y Y (xZ Y (Ha Y Y Om Y (mT mH) Y (pT (pT (pT (pT pH)))) (uT uH)) (Gw ?_))))))))));refine Gt (Gu (GK Z Z (fun hok=>?_)));refine Bw GP hok 0 Y Z Y (mT mH) (Bw GP hok 1 Y Z Y (mT mH) (Bf Ji hok 2 Y Z Y (Bl lx HX hok 3 Y Z Y (mT mH) ?_)));obtain⟨nP,h⟩:=h;refine GV hok 4 [(14,_),(16,_)] Y Y Z (lc Y (lc Y ln)) Z trivial (OT.st (fun _ h=>h) (GC (Cs:=[]) (Rs:=[[(b6,_)],[(b3,_)],dk,ee,eP,dB,[(b2,_)],[(b1,_)]]) U8 Y (fun w1 br=>aF ((fun(br:St w ((b6,_)::((b3,_)::(dk++(ee++(eP++(dB++((b2,_)::((b1,_)::([]))))))))) w1)=>Jf w1 (zf.sl br SG) (zg.sl br SG) (zi.sl br SG) (zl.sl br SG) (zf.sl br SG) _ (JC nP)) br)) (by exact fun _ _ _ h=>h.1))) ?_;rintro r9 _ ⟨w1,_,rfl,hle,-,_,gQ,rfl,rfl,fw,fk⟩;replace fk:=Cov.base (w0:=w) fk hle;refine Iv (H':=gQ++((b6,_)::((b3,_)::(dk++(ee++(eP++(dB++((b2,_)::((b1,_)::([])))))))))) Y ?_;refine⟨RA,KM,?_⟩;refine HF hok 2 5 [(6,_),(13,_)] Y Y Z Z (lc Y (lc Y ln)) Z trivial (GS Y Y GP Y ON (mR mH) (Upd.seg uH)) ?_;rintro _ _ ⟨rfl,rfl⟩;refine⟨KM,?_⟩;refine Ba hok 6 Y Z Y (GM hok Z (Gt (Hl (In (.inl Y) (l:=[.cell 6 62,.tmp 7]) results99 (.cell Y GP (mR mH) (.tmp Y .nil)) Y _ (fun _ h=>h) (?_)))));refine vm Y (ve Y (ve Y (xr Y (G1 Ao Ij H9) ?_)));rintro _ _ ⟨Gm,Fm,rfl,rfl⟩;refine xZ Y (GS Y Y GP Y ON mH uH) (va Y (nR (xQ Y (GA Y GP mH) (vm Y (xZ Y (GS Y Y GP Y ON (mT (mR (mT (mT (mR (mR (mR (mR mH)))))))) (uT (Upd.seg (uT (uT (Upd.seg (Upd.seg (Upd.seg (Upd.seg uH))))))))) (va Y (va Y (nV ?_))))))));refine Gx ?_;subst h
   exact O5 results53 Y GP (mT (mR (mT (mT (mR (mR (mR (mR mH)))))))) Y Y _ PK (⟨_,_,_,_,_,dk,ee,eP,dB,gQ,Y,Y,zf,zb,zg,za,zi,zd,zl,zc,fw,fk⟩)
  .refine jW (Xf Jj Y Y (xZ Y (Ha Y Y GF Y (mR (mR (mR (mR (mT mH))))) Y (pT pH) (Upd.seg (Upd.seg (Upd.seg (Upd.seg (uT uH)))))) (nY (GK Z Z (fun hok=>?_)))));refine Bw GP hok 0 Y Z Y (mR (mR (mR (mR (mT mH))))) (Bw GP hok 1 Y Z Y (mR (mR (mR (mR (mT mH))))) (Bf Ji hok 2 Y Z Y (Bl lx HX hok 3 Y Z Y (mR (mR (mR (mR (mT mH))))) ?_)));obtain⟨gd,h⟩:=h;refine GV hok 4 [(29,_),(31,_)] Y Y Z (lc Y (lc Y ln)) Z trivial (OT.st (fun _ h=>h) (GC (Cs:=[]) (Rs:=[dk,ee,eP,dB,[(b2,_)],[(b1,_)]]) YL Y (fun w1 br=>aF ((fun(br:St w (dk++(ee++(eP++(dB++((b2,_)::((b1,_)::([]))))))) w1)=>Ru w1 (zf.sl br SG) (zg.sl br SG) (zi.sl br SG) (zl.sl br SG) (zf.sl br SG) _ (Ur gd)) br)) (by exact fun _ _ _ h=>h.1))) ?_;rintro nT _ ⟨w1,_,rfl,hle,-,_,fI,rfl,rfl,eO,eB⟩;replace eB:=Cov.base (w0:=w) eB hle;refine Iv (H':=fI++(dk++(ee++(eP++(dB++((b2,_)::((b1,_)::([])))))))) Y ?_;refine⟨RA,KM,?_⟩;refine HF hok 2 5 [(2,_),(28,_)] Y Y Z Z (lc Y (lc Y ln)) Z trivial (GS Y Y GP Y ON (mR (mR (mR (mR (mR mH))))) (Upd.seg (Upd.seg (Upd.seg (Upd.seg (Upd.seg uH)))))) ?_;rintro _ _ ⟨rfl,rfl⟩;refine⟨KM,?_⟩;refine Ba hok 6 Y Z Y (Ba hok 7 Y Z Y (GM hok Z (Gt (Hl ?_))));subst h
   exact O5 results53 Y GP (mR (mR (mR (mR (mR mH))))) Y Y _ PK (⟨_,_,_,_,_,dk,ee,eP,dB,fI,Y,Y,zf,zb,zg,za,zi,zd,zl,zc,eO,eB⟩)
theorem AbR {aj ab aa ah ae ac af ag ad ai ak al m1 zm zj zh zk} (w) (ci:SL w 1 ic zm ad) (bV:SL w 1 ic zj ai) (bU:SL w 1 ic zh ak) (bY:SL w 5 iv zk al) (r) (h:Nj aj ab aa ah ae ac af ag ad ai ak al m1 (Eq r)):Con prog 59 #[AG 13 (cl (An aj ab aa ah (ae) ac af ag zm zj zh zk)),AI 28 m1] w (fun v F=>∃ (dD cB cA cz u1:Value) (fj dw dv du C1:GH),v=.tuple #[AG 13 (cl (An r.1.1 r.1.2.1 r.1.2.2.1 r.1.2.2.2.1 (r.1.2.2.2.2.1) r.1.2.2.2.2.2.1 r.1.2.2.2.2.2.2.1 r.1.2.2.2.2.2.2.2.1 dD cB cA cz)),u1,I8 86 r.2.2]/\F=(fj++(dw++(dv++(du++(C1++[])))))/\OJ 3 1 ic fj dD r.1.2.2.2.2.2.2.2.2.1/\Cov w [] fj/\OJ 3 1 ic dw cB r.1.2.2.2.2.2.2.2.2.2.1/\Cov w [] dw/\OJ 3 1 ic dv cA r.1.2.2.2.2.2.2.2.2.2.2.1/\Cov w [] dv/\OJ 104 5 iv du cz r.1.2.2.2.2.2.2.2.2.2.2.2/\Cov w [] du/\OJ 45 28 iv C1 u1 r.2.1/\Cov w [] C1):=by
 unfold Nj at h;refine ce func59 Y ntmps59 Y (wS (xr Y (HA (An aj ab aa ah (ae) ac af ag zm zj zh zk) Y H9) ?_));rintro _ _ ⟨b2,j5,rfl,rfl⟩;refine xr Y (He Y) ?_;rintro _ _ ⟨b3,iU,rfl,rfl⟩;refine xr Y (G1 Ao Ij H9) ?_;rintro _ _ ⟨b4,lw,rfl,rfl⟩;refine va Y (va Y (nR (xQ Y (GA Y GP (mT (mT mH))) ?_)));obtain⟨gm,h⟩:=h;refine Ir Y trivial Xn Y (fun w1 br=>Mf w1 (ci.keep br FR) (bV.keep br FR) (bU.keep br FR) (bY.keep br FR) _ (OI gm)) ?_;rintro w1 _ _ br ⟨lx,oo,qs,kW,dk,ee,eP,dB,rfl,rfl,zf,zb,zg,za,zi,zd,zl,zc⟩;refine⟨_,Mg.news (Cov.fresh zb) (Mg.news (Cov.fresh za) (Mg.news (Cov.fresh zd) (Mg.news (Cov.fresh zc) (.nil _)))),?_⟩;replace zb:=Cov.base (w0:=w) zb br.size;replace za:=Cov.base (w0:=w) za br.size;replace zd:=Cov.base (w0:=w) zd br.size;replace zc:=Cov.base (w0:=w) zc br.size;refine xZ Y (GS Y Y GP Y ON (mR (mR (mR (mR (mT (mT mH)))))) (Upd.seg (Upd.seg (Upd.seg (Upd.seg (uT (uT uH))))))) (nY (wS (xQ Y (GA Y GP (mR (mR (mR (mR (mT (mT mH))))))) (xQ Y (GA Y Hm (mR (mR (mR (mR (mT mH)))))) (Xf Jj Y Y (Xi ab GF Y Y (xQ Y (GI Y Y) ?_)))))));obtain⟨eX,h⟩:=h;refine xc Y Agl Y (fun w1 br=>V7 w1 (zf.sl br SG) (zg.sl br SG) (zi.sl br SG) (zl.sl br SG) _ (X7 eX)) (va Y (nR (vm Y (xQ Y (IS underlying28 Y (fun _=>Y) Y Y) (nS (wn Y h (fun dW h=>?_) fun dW h=>?_))))))
 .refine wS (xQ Y (GA Y GP (mR (mR (mR (mR (mT (mT mH))))))) (vm Y (xZ Y (GS Y Y GP Y ON (mR (mR (mR (mR mH)))) (Upd.seg (Upd.seg (Upd.seg (Upd.seg uH))))) (va Y (va Y (nU ?_))))));subst h
  exact O5 results59 Y GP (mR (mR (mR (mR mH)))) Y Y _ KP (⟨_,_,_,_,_,dk,ee,eP,dB,[],Y,Y,zf,zb,zg,za,zi,zd,zl,zc,OJ.nil,Cov.refl _⟩)
 .refine jS (wS (Xf Hi Y Y (Xi (m1 8) GF Y Y (xQ Y (GI Y Y) (nS (wd Y h (fun co h=>?_) fun co h=>?_))))))
  .refine wS (xQ Y (GA Y GP (mR (mR (mR (mR (mT (mT mH))))))) (KO Y Aed Y func99 Y ntmps99 Y (wS (xr Y (HA (An aj ab aa ah (ae) ac af ag lx oo qs kW) Y H9) ?_))));rintro _ _ ⟨iV,oh,rfl,rfl⟩;refine xr Y (G1 Ao Ij H9) ?_;rintro _ _ ⟨b6,og,rfl,rfl⟩;refine va Y (nR (vm Y (vm Y (Xf Jj Y Y (xZ Y (Ha Y Y GF Y (mT mH) Y (pT pH) (uT uH)) (Xf Q9 Y Y (xZ Y (Ha Y Y GF Y (mT mH) Y (pT (pT pH)) (uT uH)) (Xf Lu Y Y (xZ Y (Ha Y Y Om Y (mT mH) Y (pT (pT (pT (pT pH)))) (uT uH)) (Gw ?_))))))))));refine Gt (Gu (GK Z Z (fun hok=>?_)));refine Bw GP hok 0 Y Z Y (mT mH) (Bw GP hok 1 Y Z Y (mT mH) (Bf Ji hok 2 Y Z Y (Bl lx HX hok 3 Y Z Y (mT mH) ?_)));obtain⟨jv,h⟩:=h;refine GV hok 4 [(14,_),(16,_)] Y Y Z (lc Y (lc Y ln)) Z trivial (OT.st (fun _ h=>h) (GC (Cs:=[]) (Rs:=[[(b6,_)],[(iV,_)],dk,ee,eP,dB,[(b4,_)],[(b3,_)],[(b2,_)]]) U8 Y (fun w1 br=>aF ((fun(br:St w ((b6,_)::((iV,_)::(dk++(ee++(eP++(dB++((b4,_)::((b3,_)::((b2,_)::([])))))))))) w1)=>Jf w1 (zf.sl br SG) (zg.sl br SG) (zi.sl br SG) (zl.sl br SG) (zf.sl br SG) _ (JC jv)) br)) (by exact fun _ _ _ h=>h.1))) ?_;rintro iQ _ ⟨w1,_,rfl,hle,-,_,eI,rfl,rfl,dP,cH⟩;replace cH:=Cov.base (w0:=w) cH hle;refine Iv (H':=eI++((b6,_)::((iV,_)::(dk++(ee++(eP++(dB++((b4,_)::((b3,_)::((b2,_)::([]))))))))))) Y ?_;refine⟨RA,KM,?_⟩;refine HF hok 2 5 [(6,_),(13,_)] Y Y Z Z (lc Y (lc Y ln)) Z trivial (GS Y Y GP Y ON (mR mH) (Upd.seg uH)) ?_;rintro _ _ ⟨rfl,rfl⟩;refine⟨KM,?_⟩;refine Ba hok 6 Y Z Y (GM hok Z (Gt (Hl (In (.inl Y) (l:=[.cell 6 62,.tmp 7]) results99 (.cell Y GP (mR mH) (.tmp Y .nil)) Y _ (fun _ h=>h) (?_)))));refine vm Y (ve Y (ve Y (xr Y (G1 Ao Ij H9) ?_)));rintro _ _ ⟨b8,ws,rfl,rfl⟩;refine xZ Y (GS Y Y GP Y ON mH uH) (va Y (nR (xQ Y (GA Y GP mH) (vm Y (xZ Y (GS Y Y GP Y ON (mT (mR (mT (mT (mR (mR (mR (mR mH)))))))) (uT (Upd.seg (uT (uT (Upd.seg (Upd.seg (Upd.seg (Upd.seg uH))))))))) (va Y (va Y (nV ?_))))))));refine Gx ?_;subst h
   exact O5 results59 Y GP (mT (mR (mT (mT (mR (mR (mR (mR mH)))))))) Y Y _ PK (⟨_,_,_,_,_,dk,ee,eP,dB,eI,Y,Y,zf,zb,zg,za,zi,zd,zl,zc,dP,cH⟩)
  .refine jW (Xf M7 Y Y (Xl (oo) HX Y Y (Xf IE Y Y (Xi (m1 1) GF Y Y (KO Y Ag3 Y func96 Y ntmps96 Y (wS (va Y (nS ?_))))))));refine wS (vm Y (vm Y ?_));obtain⟨dy,h⟩:=h;refine xc Y Aeh Y (fun w1 br=>QQ w1 (zg.sl br SG) _ (SF dy)) (vm Y (ve Y (ve Y (va Y (va Y (nY (wS (vm Y (nS ?_)))))))));refine wb Y h (fun cX h=>?_) fun cX h=>?_
   .refine wS (vm Y (va Y (nU (rO results96 Y (?_)))));refine Xf M7 Y Y (xZ Y (Ha Y Y HX (GL (OJ.val zg)) (mR (mR (mR (mR (mT (mT mH)))))) Y (pT (pT (pT (pT (pT (pT (pT (pT (pT (pT pH)))))))))) (Upd.seg (Upd.seg (Upd.seg (Upd.seg (uT (uT uH))))))) (nY (wS (Xf M7 Y Y (Xl (oo) HX Y Y (xQ Y (Hs Y underlying59 Y (OJ.val zg)) (Xf Ji Y Y (Xl (lx) HX Y Y (xQ Y (Hs Y underlying59 Y (OJ.val zf)) (xQ Y (G6 Y Y) ?_))))))))));refine nS (wd Y h (fun dL h=>?_) fun dL h=>?_)
    .refine wS (xQ Y (GA Y GP (mR (mR (mR (mR (mT (mT mH))))))) (xZ Y (GS Y Y GP Y ON (mR (mR (mR (mR mH)))) (Upd.seg (Upd.seg (Upd.seg (Upd.seg uH))))) (va Y (va Y (nU ?_)))));subst h
     exact O5 results59 Y GP (mR (mR (mR (mR mH)))) Y Y _ KP (⟨_,_,_,_,_,dk,ee,eP,dB,[],Y,Y,zf,zb,zg,za,zi,zd,zl,zc,OJ.nil,Cov.refl _⟩)
    .refine jW (xQ Y (GA Y GP (mR (mR (mR (mR (mT (mT mH))))))) (KO Y Aed Y func99 Y ntmps99 Y (wS (xr Y (HA (An aj ab aa ah (ae) ac af ag lx oo qs kW) Y H9) ?_))));rintro _ _ ⟨iV,oh,rfl,rfl⟩;refine xr Y (G1 Ao Ij H9) ?_;rintro _ _ ⟨b6,og,rfl,rfl⟩;refine va Y (nR (vm Y (vm Y (Xf Jj Y Y (xZ Y (Ha Y Y GF Y (mT mH) Y (pT pH) (uT uH)) (Xf Q9 Y Y (xZ Y (Ha Y Y GF Y (mT mH) Y (pT (pT pH)) (uT uH)) (Xf Lu Y Y (xZ Y (Ha Y Y Om Y (mT mH) Y (pT (pT (pT (pT pH)))) (uT uH)) (Gw ?_))))))))));refine Gt (Gu (GK Z Z (fun hok=>?_)));refine Bw GP hok 0 Y Z Y (mT mH) (Bw GP hok 1 Y Z Y (mT mH) (Bf Ji hok 2 Y Z Y (Bl lx HX hok 3 Y Z Y (mT mH) ?_)));obtain⟨eb,h⟩:=h;refine GV hok 4 [(14,_),(16,_)] Y Y Z (lc Y (lc Y ln)) Z trivial (OT.st (fun _ h=>h) (GC (Cs:=[]) (Rs:=[[(b6,_)],[(iV,_)],dk,ee,eP,dB,[(b4,_)],[(b3,_)],[(b2,_)]]) U8 Y (fun w1 br=>aF ((fun(br:St w ((b6,_)::((iV,_)::(dk++(ee++(eP++(dB++((b4,_)::((b3,_)::((b2,_)::([])))))))))) w1)=>Jf w1 (zf.sl br SG) (zg.sl br SG) (zi.sl br SG) (zl.sl br SG) (zf.sl br SG) _ (JC eb)) br)) (by exact fun _ _ _ h=>h.1))) ?_;rintro kx _ ⟨w1,_,rfl,hle,-,_,dN,rfl,rfl,ei,cN⟩;replace cN:=Cov.base (w0:=w) cN hle;refine Iv (H':=dN++((b6,_)::((iV,_)::(dk++(ee++(eP++(dB++((b4,_)::((b3,_)::((b2,_)::([]))))))))))) Y ?_;refine⟨RA,KM,?_⟩;refine HF hok 2 5 [(6,_),(13,_)] Y Y Z Z (lc Y (lc Y ln)) Z trivial (GS Y Y GP Y ON (mR mH) (Upd.seg uH)) ?_;rintro _ _ ⟨rfl,rfl⟩;refine⟨KM,?_⟩;refine Ba hok 6 Y Z Y (GM hok Z (Gt (Hl (In (.inl Y) (l:=[.cell 6 62,.tmp 7]) results99 (.cell Y GP (mR mH) (.tmp Y .nil)) Y _ (fun _ h=>h) (?_)))));refine vm Y (ve Y (ve Y (xZ Y (GS Y Y GP Y ON (mR (mT (mT (mR (mR (mR (mR (mT (mT mH))))))))) (Upd.seg (uT (uT (Upd.seg (Upd.seg (Upd.seg (Upd.seg (uT (uT uH)))))))))) (va Y (nR (xQ Y (GA Y GP (mR (mT (mT (mR (mR (mR (mR (mT (mT mH)))))))))) (vm Y (xZ Y (GS Y Y GP Y ON (mR (mT (mT (mR (mR (mR (mR mH))))))) (Upd.seg (uT (uT (Upd.seg (Upd.seg (Upd.seg (Upd.seg uH)))))))) (va Y (va Y ?_))))))))));refine nV ?_;subst h
     exact O5 results59 Y GP (mR (mT (mT (mR (mR (mR (mR mH))))))) Y Y _ PK (⟨_,_,_,_,_,dk,ee,eP,dB,dN,Y,Y,zf,zb,zg,za,zi,zd,zl,zc,ei,cN⟩)
   .refine jW (vm Y ?_);obtain⟨gB,h⟩:=h;refine Ir Y trivial V0 Y (fun w1 br=>Jm w1 (zg.sl br SG) _ (JP gB)) ?_;rintro w1 jJ _ br ⟨_,dM,rfl,rfl,d6,cG⟩;refine⟨_,Mg.news (Cov.fresh cG) (.nil _),?_⟩;replace cG:=Cov.base (w0:=w) cG br.size;refine vm Y (vm Y (xr Y (Ho HY VU (HD Y) Y Y (.int Y Y (.nil _))) ?_));rintro _ _ ⟨r5,AH,rfl,rfl⟩;obtain⟨gc,h⟩:=h;obtain⟨fM,h⟩:=h;refine xr Y (OT.st (fun _ h=>St.permJ [1,0,2,3,4,5,6,7,8] [[(r5,_)],dM,dk,ee,eP,dB,[(b4,_)],[(b3,_)],[(b2,_)]] h) (GC (Cs:=[dM]) (Rs:=[[(r5,_)],dk,ee,eP,dB,[(b4,_)],[(b3,_)],[(b2,_)]]) Aeg Y (fun w1 br=>PV Ag1 (x:=m1 1) d6 br mH Y gc fM) (fun _ _ _ h=>h.1))) ?_;rintro oP _ ⟨w1,_,rfl,hle,-,eN,rfl,fl,dq⟩;replace dq:=Cov.trans cG (Cov.base (w0:=w) dq hle);refine G0 (eN++((r5,_)::(dk++(ee++(eP++(dB++((b4,_)::((b3,_)::((b2,_)::([])))))))))) (fun _ h=>h) (va Y (nV (rO results96 Y (?_))));refine Xf M7 Y Y (xZ Y (Ha Y Y HX (GL (OJ.val fl)) (mR (mT (mR (mR (mR (mR (mT (mT mH)))))))) Y (pT (pT (pT (pT (pT (pT (pT (pT (pT (pT pH)))))))))) (Upd.seg (uT (Upd.seg (Upd.seg (Upd.seg (Upd.seg (uT (uT uH))))))))) (nY (wS (Xf M7 Y Y (Xl (oP) HX Y Y (xQ Y (Hs Y underlying59 Y (OJ.val fl)) (Xf Ji Y Y (Xl (lx) HX Y Y (xQ Y (Hs Y underlying59 Y (OJ.val zf)) (xQ Y (G6 Y Y) ?_))))))))));refine nS (wd Y h (fun eW h=>?_) fun eW h=>?_)
    .refine wS (xQ Y (GA Y GP (mR (mT (mR (mR (mR (mR (mT (mT mH))))))))) (xZ Y (GS Y Y GP Y ON (mR (mT (mR (mR (mR (mR mH)))))) (Upd.seg (uT (Upd.seg (Upd.seg (Upd.seg (Upd.seg uH))))))) (va Y (va Y (nU ?_)))));subst h
     exact O5 results59 Y GP (mR (mT (mR (mR (mR (mR mH)))))) Y Y _ PK (⟨_,_,_,_,_,dk,eN,eP,dB,[],Y,Y,zf,zb,fl,dq,zi,zd,zl,zc,OJ.nil,Cov.refl _⟩)
    .refine jW (xQ Y (GA Y GP (mR (mT (mR (mR (mR (mR (mT (mT mH))))))))) (KO Y Aed Y func99 Y ntmps99 Y (wS (xr Y (HA (An aj ab aa ah (ae) ac af ag lx oP qs kW) Y H9) ?_))));rintro _ _ ⟨iV,oh,rfl,rfl⟩;refine xr Y (G1 Ao Ij H9) ?_;rintro _ _ ⟨b6,og,rfl,rfl⟩;refine va Y (nR (vm Y (vm Y (Xf Jj Y Y (xZ Y (Ha Y Y GF Y (mT mH) Y (pT pH) (uT uH)) (Xf Q9 Y Y (xZ Y (Ha Y Y GF Y (mT mH) Y (pT (pT pH)) (uT uH)) (Xf Lu Y Y (xZ Y (Ha Y Y Om Y (mT mH) Y (pT (pT (pT (pT pH)))) (uT uH)) (Gw ?_))))))))));refine Gt (Gu (GK Z Z (fun hok=>?_)));refine Bw GP hok 0 Y Z Y (mT mH) (Bw GP hok 1 Y Z Y (mT mH) (Bf Ji hok 2 Y Z Y (Bl lx HX hok 3 Y Z Y (mT mH) ?_)));obtain⟨gA,h⟩:=h;refine GV hok 4 [(14,_),(16,_)] Y Y Z (lc Y (lc Y ln)) Z trivial (OT.st (fun _ h=>h) (GC (Cs:=[]) (Rs:=[[(b6,_)],[(iV,_)],eN,[(r5,_)],dk,ee,eP,dB,[(b4,_)],[(b3,_)],[(b2,_)]]) U8 Y (fun w1 br=>aF ((fun(br:St w ((b6,_)::((iV,_)::(eN++((r5,_)::(dk++(ee++(eP++(dB++((b4,_)::((b3,_)::((b2,_)::([])))))))))))) w1)=>Jf w1 (zf.sl br SG) (fl.sl br SG) (zi.sl br SG) (zl.sl br SG) (zf.sl br SG) _ (JC gA)) br)) (by exact fun _ _ _ h=>h.1))) ?_;rintro xA _ ⟨w1,_,rfl,hle,-,_,iH,rfl,rfl,oB,gZ⟩;replace gZ:=Cov.base (w0:=w) gZ hle;refine Iv (H':=iH++((b6,_)::((iV,_)::(eN++((r5,_)::(dk++(ee++(eP++(dB++((b4,_)::((b3,_)::((b2,_)::([]))))))))))))) Y ?_;refine⟨RA,KM,?_⟩;refine HF hok 2 5 [(6,_),(13,_)] Y Y Z Z (lc Y (lc Y ln)) Z trivial (GS Y Y GP Y ON (mR mH) (Upd.seg uH)) ?_;rintro _ _ ⟨rfl,rfl⟩;refine⟨KM,?_⟩;refine Ba hok 6 Y Z Y (GM hok Z (Gt (Hl (In (.inl Y) (l:=[.cell 6 62,.tmp 7]) results99 (.cell Y GP (mR mH) (.tmp Y .nil)) Y _ (fun _ h=>h) (?_)))));refine vm Y (ve Y (ve Y (xZ Y (GS Y Y GP Y ON (mR (mT (mT (mR (mT (mR (mR (mR (mR (mT (mT mH))))))))))) (Upd.seg (uT (uT (Upd.seg (uT (Upd.seg (Upd.seg (Upd.seg (Upd.seg (uT (uT uH)))))))))))) (va Y (nR (xQ Y (GA Y GP (mR (mT (mT (mR (mT (mR (mR (mR (mR (mT (mT mH)))))))))))) (vm Y (xZ Y (GS Y Y GP Y ON (mR (mT (mT (mR (mT (mR (mR (mR (mR mH))))))))) (Upd.seg (uT (uT (Upd.seg (uT (Upd.seg (Upd.seg (Upd.seg (Upd.seg uH)))))))))) (va Y (va Y ?_))))))))));refine nV ?_;subst h
     exact O5 results59 Y GP (mR (mT (mT (mR (mT (mR (mR (mR (mR mH))))))))) Y Y _ PK (⟨_,_,_,_,_,dk,eN,eP,dB,iH,Y,Y,zf,zb,fl,dq,zi,zd,zl,zc,oB,gZ⟩)
theorem Zw {aj ab aa ah ae ac af ag ad ai ak al bC zm zj zh zk} (w) (ci:SL w 1 ic zm ad) (bV:SL w 1 ic zj ai) (bU:SL w 1 ic zh ak) (bY:SL w 5 iv zk al) (r) (h:LO aj ab aa ah ae ac af ag ad ai ak al bC (Eq r)):Con prog 102 #[AG 13 (cl (An aj ab aa ah (ae) ac af ag zm zj zh zk)),iI bC] w (fun v F=>∃ (dD cB cA cz u1:Value) (fj dw dv du C1:GH),v=.tuple #[AG 13 (cl (An r.1.1 r.1.2.1 r.1.2.2.1 r.1.2.2.2.1 (r.1.2.2.2.2.1) r.1.2.2.2.2.2.1 r.1.2.2.2.2.2.2.1 r.1.2.2.2.2.2.2.2.1 dD cB cA cz)),u1,I8 86 r.2.2]/\F=(fj++(dw++(dv++(du++(C1++[])))))/\OJ 3 1 ic fj dD r.1.2.2.2.2.2.2.2.2.1/\Cov w [] fj/\OJ 3 1 ic dw cB r.1.2.2.2.2.2.2.2.2.2.1/\Cov w [] dw/\OJ 3 1 ic dv cA r.1.2.2.2.2.2.2.2.2.2.2.1/\Cov w [] dv/\OJ 104 5 iv du cz r.1.2.2.2.2.2.2.2.2.2.2.2/\Cov w [] du/\OJ 45 28 iv C1 u1 r.2.1/\Cov w [] C1):=by
 unfold LO at h;refine ce func102 Y ntmps102 Y (wS (xr Y (HA (An aj ab aa ah (ae) ac af ag zm zj zh zk) Y H9) ?_));rintro _ _ ⟨b2,j5,rfl,rfl⟩;refine xr Y (G1 Ao Ij H9) ?_;rintro _ _ ⟨b4,lw,rfl,rfl⟩;refine va Y (va Y (nR (xQ Y (GA Y GP (mT mH)) ?_)));obtain⟨gm,h⟩:=h;refine Ir Y trivial Xn Y (fun w1 br=>Mf w1 (ci.keep br FR) (bV.keep br FR) (bU.keep br FR) (bY.keep br FR) _ (OI gm)) ?_;rintro w1 _ _ br ⟨lx,oo,qs,kW,dk,ee,eP,dB,rfl,rfl,zf,zb,zg,za,zi,zd,zl,zc⟩;refine⟨_,Mg.news (Cov.fresh zb) (Mg.news (Cov.fresh za) (Mg.news (Cov.fresh zd) (Mg.news (Cov.fresh zc) (.nil _)))),?_⟩;replace zb:=Cov.base (w0:=w) zb br.size;replace za:=Cov.base (w0:=w) za br.size;replace zd:=Cov.base (w0:=w) zd br.size;replace zc:=Cov.base (w0:=w) zc br.size;refine xZ Y (GS Y Y GP Y ON (mR (mR (mR (mR (mT mH))))) (Upd.seg (Upd.seg (Upd.seg (Upd.seg (uT uH)))))) (nY (Gu (wk [1,2,4] Y [(15,.bool ((decide (bC<1))||(decide (5<bC))))] ?_ ?_)))
 .refine Gr (vm Y (xQ Y (G6 Y Y) (vm Y (IY 12 Y (fun ct=>?_) fun ct=>?_))))
  .exact Ma ct
  .exact vm Y (xQ Y (Hz Y Y) (Ma ct))
 .refine Gt (wb Y h (fun dW h=>?_) fun dW h=>?_)
  .refine wS (xQ Y (GA Y GP (mR (mR (mR (mR (mT mH)))))) (xQ Y (HE Y underlying86 Y) (xZ Y (GS Y Y GP Y ON (mR (mR (mR (mR mH)))) (Upd.seg (Upd.seg (Upd.seg (Upd.seg uH))))) (va Y (va Y (nU ?_))))));subst h
   exact O5 results102 Y GP (mR (mR (mR (mR mH)))) Y Y _ KP (⟨_,_,_,_,_,dk,ee,eP,dB,[],Y,Y,zf,zb,zg,za,zi,zd,zl,zc,OJ.nil,Cov.refl _⟩)
  .refine jS (wS (xQ Y (GA Y GP (mR (mR (mR (mR (mT mH)))))) (xc Y Aid Y (fun w1 br=>Ry w1 (zf.sl br SG) (zg.sl br SG) (zi.sl br SG) (zl.sl br SG) _ (TE)) (nS (wb Y h (fun co h=>?_) fun co h=>?_)))))
   .refine wS (xQ Y (GA Y GP (mR (mR (mR (mR (mT mH)))))) (xQ Y (HE Y underlying86 Y) (xZ Y (GS Y Y GP Y ON (mR (mR (mR (mR mH)))) (Upd.seg (Upd.seg (Upd.seg (Upd.seg uH))))) (va Y (va Y (nU ?_))))));subst h
    exact O5 results102 Y GP (mR (mR (mR (mR mH)))) Y Y _ KP (⟨_,_,_,_,_,dk,ee,eP,dB,[],Y,Y,zf,zb,zg,za,zi,zd,zl,zc,OJ.nil,Cov.refl _⟩)
   .refine jW (xQ Y (GA Y GP (mR (mR (mR (mR (mT mH)))))) (vm Y (KO Y Aed Y func99 Y ntmps99 Y (wS (xr Y (HA (An aj ab aa ah (ae) ac af ag lx oo qs kW) Y H9) ?_)))));rintro _ _ ⟨b3,iU,rfl,rfl⟩;refine xr Y (G1 Ao Ij H9) ?_;rintro _ _ ⟨b6,og,rfl,rfl⟩;refine va Y (nR (vm Y (vm Y (Xf Jj Y Y (xZ Y (Ha Y Y GF Y (mT mH) Y (pT pH) (uT uH)) (Xf Q9 Y Y (xZ Y (Ha Y Y GF Y (mT mH) Y (pT (pT pH)) (uT uH)) (Xf Lu Y Y (xZ Y (Ha Y Y Om Y (mT mH) Y (pT (pT (pT (pT pH)))) (uT uH)) (Gw ?_))))))))));refine Gt (Gu (GK Z Z (fun hok=>?_)));refine Bw GP hok 0 Y Z Y (mT mH) (Bw GP hok 1 Y Z Y (mT mH) (Bf Ji hok 2 Y Z Y (Bl lx HX hok 3 Y Z Y (mT mH) ?_)));obtain⟨jv,h⟩:=h;refine GV hok 4 [(14,_),(16,_)] Y Y Z (lc Y (lc Y ln)) Z trivial (OT.st (fun _ h=>h) (GC (Cs:=[]) (Rs:=[[(b6,_)],[(b3,_)],dk,ee,eP,dB,[(b4,_)],[(b2,_)]]) U8 Y (fun w1 br=>aF ((fun(br:St w ((b6,_)::((b3,_)::(dk++(ee++(eP++(dB++((b4,_)::((b2,_)::([]))))))))) w1)=>Jf w1 (zf.sl br SG) (zg.sl br SG) (zi.sl br SG) (zl.sl br SG) (zf.sl br SG) _ (JC jv)) br)) (by exact fun _ _ _ h=>h.1))) ?_;rintro iQ _ ⟨w1,_,rfl,hle,-,_,eI,rfl,rfl,dP,cH⟩;replace cH:=Cov.base (w0:=w) cH hle;refine Iv (H':=eI++((b6,_)::((b3,_)::(dk++(ee++(eP++(dB++((b4,_)::((b2,_)::([])))))))))) Y ?_;refine⟨RA,KM,?_⟩;refine HF hok 2 5 [(6,_),(13,_)] Y Y Z Z (lc Y (lc Y ln)) Z trivial (GS Y Y GP Y ON (mR mH) (Upd.seg uH)) ?_;rintro _ _ ⟨rfl,rfl⟩;refine⟨KM,?_⟩;refine Ba hok 6 Y Z Y (GM hok Z (Gt (Hl (In (.inl Y) (l:=[.cell 6 62,.tmp 7]) results99 (.cell Y GP (mR mH) (.tmp Y .nil)) Y _ (fun _ h=>h) (?_)))));refine vm Y (ve Y (ve Y (xZ Y (GS Y Y GP Y ON (mR (mT (mT (mR (mR (mR (mR (mT mH)))))))) (Upd.seg (uT (uT (Upd.seg (Upd.seg (Upd.seg (Upd.seg (uT uH))))))))) (va Y (nR (xQ Y (GA Y GP (mR (mT (mT (mR (mR (mR (mR (mT mH))))))))) (vm Y (xZ Y (GS Y Y GP Y ON (mR (mT (mT (mR (mR (mR (mR mH))))))) (Upd.seg (uT (uT (Upd.seg (Upd.seg (Upd.seg (Upd.seg uH)))))))) (va Y (va Y ?_))))))))));refine nV ?_;subst h
    exact O5 results102 Y GP (mR (mT (mT (mR (mR (mR (mR mH))))))) Y Y _ PK (⟨_,_,_,_,_,dk,ee,eP,dB,eI,Y,Y,zf,zb,zg,za,zi,zd,zl,zc,dP,cH⟩)
theorem Adf {aj ab aa ah ae ac af ag ad ai ak al m1 zm zj zh zk} (w) (ci:SL w 1 ic zm ad) (bV:SL w 1 ic zj ai) (bU:SL w 1 ic zh ak) (bY:SL w 5 iv zk al) (r) (h:Po aj ab aa ah ae ac af ag ad ai ak al m1 (Eq r)):Con prog 60 #[AG 13 (cl (An aj ab aa ah (ae) ac af ag zm zj zh zk)),AI 28 m1] w (fun v F=>∃ (dD cB cA cz:Value) (fj dw dv du:GH),v=.tuple #[AG 13 (cl (An r.1.1 r.1.2.1 r.1.2.2.1 r.1.2.2.2.1 (r.1.2.2.2.2.1) r.1.2.2.2.2.2.1 r.1.2.2.2.2.2.2.1 r.1.2.2.2.2.2.2.2.1 dD cB cA cz)),I8 86 r.2]/\F=(fj++(dw++(dv++(du++[]))))/\OJ 3 1 ic fj dD r.1.2.2.2.2.2.2.2.2.1/\Cov w [] fj/\OJ 3 1 ic dw cB r.1.2.2.2.2.2.2.2.2.2.1/\Cov w [] dw/\OJ 3 1 ic dv cA r.1.2.2.2.2.2.2.2.2.2.2.1/\Cov w [] dv/\OJ 104 5 iv du cz r.1.2.2.2.2.2.2.2.2.2.2.2/\Cov w [] du):=by
 unfold Po at h;refine ce func60 Y ntmps60 Y (wS (xr Y (HA (An aj ab aa ah (ae) ac af ag zm zj zh zk) Y H9) ?_));rintro _ _ ⟨b2,j5,rfl,rfl⟩;refine xr Y (He Y) ?_;rintro _ _ ⟨b3,iU,rfl,rfl⟩;refine xr Y (G1 Ao Ij H9) ?_;rintro _ _ ⟨b4,lw,rfl,rfl⟩;refine va Y (nR (xQ Y (GA Y GP (mT (mT mH))) ?_));obtain⟨gm,h⟩:=h;refine Ir Y trivial Xn Y (fun w1 br=>Mf w1 (ci.keep br FR) (bV.keep br FR) (bU.keep br FR) (bY.keep br FR) _ (OI gm)) ?_;rintro w1 _ _ br ⟨lx,oo,qs,kW,dk,ee,eP,dB,rfl,rfl,zf,zb,zg,za,zi,zd,zl,zc⟩;refine⟨_,Mg.news (Cov.fresh zb) (Mg.news (Cov.fresh za) (Mg.news (Cov.fresh zd) (Mg.news (Cov.fresh zc) (.nil _)))),?_⟩;replace zb:=Cov.base (w0:=w) zb br.size;replace za:=Cov.base (w0:=w) za br.size;replace zd:=Cov.base (w0:=w) zd br.size;replace zc:=Cov.base (w0:=w) zc br.size;refine xZ Y (GS Y Y GP Y ON (mR (mR (mR (mR (mT (mT mH)))))) (Upd.seg (Upd.seg (Upd.seg (Upd.seg (uT (uT uH))))))) (nY (Gu (GK Z Z (fun hok=>?_))));refine Bw GP hok 0 Y Z Y (mR (mR (mR (mR (mT (mT mH)))))) (Bw Hm hok 1 Y Z Y (mR (mR (mR (mR (mT mH))))) (Bw GP hok 2 Y Z Y (mR (mR (mR (mR (mT (mT mH)))))) (NN hok 3 [11] (dk++(ee++(eP++(dB++([]))))) (Md SG (Md SG (Md SG (Md SG Nd)))) Y Z (fun _ hy hK=>JW Aid Y (fun w1 br=>Ry w1 (zf.sl br (SH hy)) (zg.sl br (SH hy)) (zi.sl br (SH hy)) (zl.sl br (SH hy)) _ (TE))) ?_)));obtain⟨eX,h⟩:=h;refine NN hok 4 [9,10,12] (dk++(ee++(eP++(dB++([]))))) (Md SG (Md SG (Md SG (Md SG Nd)))) Y Z (fun _ hy hK=>JW Agl Y (fun w1 br=>V7 w1 (zf.sl br (SH hy)) (zg.sl br (SH hy)) (zi.sl br (SH hy)) (zl.sl br (SH hy)) _ (X7 eX))) (Ba hok 5 Y Z Y (GM hok Z (qW (vm Y (xQ Y (IS underlying28 Y (fun _=>Y) Y Y) (nS (wn Y h (fun dW h=>?_) fun dW h=>?_)))))))
 .refine wS (xQ Y (GA Y GP (mR (mR (mR (mR (mT (mT mH))))))) (vm Y (xZ Y (GS Y Y GP Y ON (mR (mR (mR (mR mH)))) (Upd.seg (Upd.seg (Upd.seg (Upd.seg uH))))) (va Y (nU ?_)))));subst h
  exact VV results60 Y GP (mR (mR (mR (mR mH)))) Y _ KP (⟨_,_,_,_,dk,ee,eP,dB,Y,Y,zf,zb,zg,za,zi,zd,zl,zc⟩)
 .refine jW (Xf LC Y Y (Xl (qs) HX Y Y (Xf IE Y Y (Xi (m1 1) GF Y Y (KO Y Ag3 Y func96 Y ntmps96 Y (wS (va Y (nS ?_))))))));refine wS (vm Y (vm Y ?_));obtain⟨nP,h⟩:=h;refine xc Y Aeh Y (fun w1 br=>QQ w1 (zi.sl br SG) _ (SF nP)) (vm Y (ve Y (ve Y (va Y (va Y (nY (wS (vm Y (nS ?_)))))))));refine wb Y h (fun cQ h=>?_) fun cQ h=>?_
  .refine wS (vm Y (va Y (nU (rO results96 Y (?_)))));refine Xf LC Y Y (xZ Y (Ha Y Y HX (GL (OJ.val zi)) (mR (mR (mR (mR (mT (mT mH)))))) Y (pT (pT (pT (pT (pT (pT (pT (pT (pT (pT (pT pH))))))))))) (Upd.seg (Upd.seg (Upd.seg (Upd.seg (uT (uT uH))))))) (nR (xQ Y (GA Y GP (mR (mR (mR (mR (mT (mT mH))))))) (xZ Y (GS Y Y GP Y ON (mR (mR (mR (mR mH)))) (Upd.seg (Upd.seg (Upd.seg (Upd.seg uH))))) (va Y (nV ?_))))));subst h
   exact VV results60 Y GP (mR (mR (mR (mR mH)))) Y _ KP (⟨_,_,_,_,dk,ee,eP,dB,Y,Y,zf,zb,zg,za,zi,zd,zl,zc⟩)
  .refine jW (vm Y ?_);obtain⟨gd,h⟩:=h;refine Ir Y trivial V0 Y (fun w1 br=>Jm w1 (zi.sl br SG) _ (JP gd)) ?_;rintro w1 nT _ br ⟨_,fI,rfl,rfl,eO,eB⟩;refine⟨_,Mg.news (Cov.fresh eB) (.nil _),?_⟩;replace eB:=Cov.base (w0:=w) eB br.size;refine vm Y (vm Y (xr Y (Ho HY VU (HD Y) Y Y (.int Y Y (.nil _))) ?_));rintro _ _ ⟨r5,AH,rfl,rfl⟩;obtain⟨hU,h⟩:=h;obtain⟨ek,h⟩:=h;refine xr Y (OT.st (fun _ h=>St.permJ [1,0,2,3,4,5,6,7,8] [[(r5,_)],fI,dk,ee,eP,dB,[(b4,_)],[(b3,_)],[(b2,_)]] h) (GC (Cs:=[fI]) (Rs:=[[(r5,_)],dk,ee,eP,dB,[(b4,_)],[(b3,_)],[(b2,_)]]) Aeg Y (fun w1 br=>PV Ag1 (x:=m1 1) eO br mH Y hU ek) (fun _ _ _ h=>h.1))) ?_;rintro sb _ ⟨w1,_,rfl,hle,-,j0,rfl,iP,dY⟩;replace dY:=Cov.trans eB (Cov.base (w0:=w) dY hle);refine G0 (j0++((r5,_)::(dk++(ee++(eP++(dB++((b4,_)::((b3,_)::((b2,_)::([])))))))))) (fun _ h=>h) (va Y (nV (rO results96 Y (?_))));refine Xf LC Y Y (xZ Y (Ha Y Y HX (GL (OJ.val iP)) (mR (mT (mR (mR (mR (mR (mT (mT mH)))))))) Y (pT (pT (pT (pT (pT (pT (pT (pT (pT (pT (pT pH))))))))))) (Upd.seg (uT (Upd.seg (Upd.seg (Upd.seg (Upd.seg (uT (uT uH))))))))) (nR (xQ Y (GA Y GP (mR (mT (mR (mR (mR (mR (mT (mT mH))))))))) (xZ Y (GS Y Y GP Y ON (mR (mT (mR (mR (mR (mR mH)))))) (Upd.seg (uT (Upd.seg (Upd.seg (Upd.seg (Upd.seg uH))))))) (va Y (nV ?_))))));subst h
   exact VV results60 Y GP (mR (mT (mR (mR (mR (mR mH)))))) Y _ PK (⟨_,_,_,_,dk,ee,j0,dB,Y,Y,zf,zb,zg,za,iP,dY,zl,zc⟩)
theorem Zv {aj ab aa ah ae ac af ag ad ai ak al cY zm zj zh zk} (w) (ci:SL w 1 ic zm ad) (bV:SL w 1 ic zj ai) (bU:SL w 1 ic zh ak) (bY:SL w 5 iv zk al) (r) (h:MF aj ab aa ah ae ac af ag ad ai ak al cY (Eq r)):Con prog 65 #[AG 13 (cl (An aj ab aa ah (ae) ac af ag zm zj zh zk)),.bool (cY)] w (fun v F=>∃ (u0:Value) (C0:GH),v=u0/\F=(C0++[])/\OJ 45 28 iv C0 u0 r/\Cov w [] C0):=by
 unfold MF at h;refine ce func65 Y ntmps65 Y (wS (xr Y (HA (An aj ab aa ah (ae) ac af ag zm zj zh zk) Y H9) ?_));rintro _ _ ⟨b2,j5,rfl,rfl⟩;refine va Y (nR (va Y (nY (wS (Xf Jj Y Y (Xi ab GF Y Y (Gw ?_)))))));refine Gt (Gz (Gu (Gz (Gz (Gu (Gz (Gu (Gz (Gu (Gu (wS (xQ Y (GI Y Y) ?_))))))))))));refine va Y (nS (wd Y h (fun bB h=>?_) fun bB h=>?_))
 .refine GJ (Gs (Gs (GD (Gt (Gu (Gu (wS (Xf Lu Y Y (Xl (.bool (ae)) Om Y Y (nS (wb Y h (fun bA h=>?_) fun bA h=>?_)))))))))))
  .refine Gr (vm Y (xQ Y (GA Y GP mH) (xc Y Ag2 Y (fun w1 br=>Sx w1 (ci.keep br FR) (bV.keep br FR) (bU.keep br FR) (bY.keep br FR) _ (Us)) (xr Y (Ho Re Lf Y Y Y (.ints Y Y (.nil _))) ?_))));rintro _ _ ⟨Gb,Fy,rfl,rfl⟩;obtain⟨el,h⟩:=h;refine xr Y (OT.st (fun _ h=>h) (Hj (c:=iv) (l:=[]) (l':=[(IX aj ab aa ah ae ac af ag ad ai ak al)]) (B:=[]) TX Y Y OJ.nil (fun w2 cC=>(JH 1 (l:=[(IX aj ab aa ah ae ac af ag ad ai ak al)]) cC (mR mH) Y Y AJ)) (fun _ _=>Y) el (G2 el D))) ?_;rintro oo _ ⟨ee,rfl,qM,zg⟩;have za:=qM
   refine va Y (nR (vm Y (nS (wb Y h (fun dU h=>?_) fun dU h=>?_))))
   .refine Gr (vm Y (xQ Y (GA Y GP (mR (mT mH))) (Xf Ji Y Y (Xl (zm) HX Y Y ?_))));obtain⟨eX,h⟩:=h;refine Ir Y trivial YL Y (fun w1 br=>Ru w1 (ci.keep br FR) (bV.keep br FR) (bU.keep br FR) (bY.keep br FR) (ci.keep br FR) _ (Ur eX)) ?_;rintro w1 y5 _ br ⟨_,wP,rfl,rfl,lj,fZ⟩;refine⟨_,Mg.news (Cov.fresh fZ) (.nil _),?_⟩;replace fZ:=Cov.base (w0:=w) fZ br.size;obtain⟨jv,h⟩:=h;refine xr Y (OT.st (fun _ h=>Pull.st (qT qH) h) (Hj (l:=([]++[(IX aj ab aa ah ae ac af ag ad ai ak al)])) (l':=(KD aj ab aa ah ae ac af ag ad ai ak al 8 0 ad)) (B:=ee) TX Y Y zg (fun w2 cC=>(lj.sl cC SG)) (fun _ _=>Y) jv (G2 jv D))) ?_;rintro qu _ ⟨ku,rfl,oX,fh⟩;have db:=Cov.trans za oX
    refine G0 (wP++(ku++((Gb,_)::((b2,_)::([]))))) (fun _ h=>Pull.push (qT qH) h) (va Y (nS (GJ (Gy Y (Gs (Gy Y (Gy Y (Gs (GD (qW ?_))))))))));refine vm Y (va Y (nV ?_));subst h
    exact yA results65 Y _ KP (⟨_,ku,Y,Y,fh,db⟩)
   .refine jT (GJ (Gy Y (Gs (Gy Y (Gy Y (Gs (GD (qW (vm Y (va Y ?_))))))))));refine nV ?_;subst h
    exact yA results65 Y _ KP (⟨_,ee,Y,Y,zg,za⟩)
  .refine jW (vm Y (nS (wb Y h (fun cg h=>?_) fun cg h=>?_)))
   .refine Gr (vm Y (xQ Y (GA Y GP mH) (Xf Ji Y Y (Xl (zm) HX Y Y ?_))));obtain⟨dy,h⟩:=h;refine Ir Y trivial YL Y (fun w1 br=>Ru w1 (ci.keep br FR) (bV.keep br FR) (bU.keep br FR) (bY.keep br FR) (ci.keep br FR) _ (Ur dy)) ?_;rintro w1 ka _ br ⟨_,d7,rfl,rfl,ej,eA⟩;refine⟨_,Mg.news (Cov.fresh eA) (.nil _),?_⟩;replace eA:=Cov.base (w0:=w) eA br.size;obtain⟨eb,h⟩:=h;refine xr Y (OT.st (fun _ h=>h) (Hj (l:=[]) (l':=(KD aj ab aa ah ae ac af ag ad ai ak al 8 0 ad)) (B:=[]) TX Y Y OJ.nil (fun w2 cC=>(ej.sl cC SG)) (fun _ _=>Y) eb (G2 eb D))) ?_;rintro lf _ ⟨gr,rfl,lQ,fa⟩;have eR:=lQ
    refine va Y (nS (GJ (Gy Y (Gs (Gy Y (Gy Y (Gs (GD (qW (vm Y ?_))))))))));refine va Y (nV ?_);subst h
    exact yA results65 Y _ KP (⟨_,gr,Y,Y,fa,eR⟩)
   .refine jT (GJ (Gy Y (Gs (Gy Y (Gy Y (Gs (GD (qW (vm Y (va Y ?_))))))))));refine nV ?_;subst h
    exact yA results65 Y _ KP (⟨_,[],Y,Y,OJ.nil,Cov.refl _⟩)
 .refine jS (wS (xQ Y (GI Y Y) (va Y (nS (wd Y h (fun eM h=>?_) fun eM h=>?_)))))
  .refine GJ (Gs (Gs (Gy Y (Gs (GD (Gt (Gu (GK Z Z (fun hok=>?_)))))))));refine Bw GP hok 0 Y Z Y mH (Bw GP hok 1 Y Z Y mH (Bf M7 hok 2 Y Z Y (Bl zj HX hok 3 Y Z Y mH ?_)));obtain⟨gB,h⟩:=h;refine GV hok 4 [(31,_),(33,_)] Y Y Z (lc Y (lc Y ln)) Z trivial (OT.st (fun _ h=>h) (GC (Cs:=[]) (Rs:=[[(b2,_)]]) Ael Y (fun w1 br=>aF ((fun(br:St w ((b2,_)::([])) w1)=>Sy w1 (ci.keep br FR) (bV.keep br FR) (bU.keep br FR) (bY.keep br FR) (bV.keep br FR) _ (Ut gB)) br)) (by exact fun _ _ _ h=>h.1))) ?_;rintro jJ _ ⟨w1,_,rfl,hle,-,_,dM,rfl,rfl,d6,cG⟩;replace cG:=Cov.base (w0:=w) cG hle;refine Iv (H':=dM++((b2,_)::([]))) Y ?_;refine⟨RA,KM,?_⟩;obtain⟨gc,h⟩:=h;refine Lh hok 2 5 [(30,_),(34,_)] Y Y Z Z (lc Y (lc Y ln)) Z trivial (OT.st (fun _ h=>h) (GC (Cs:=[]) (Rs:=[dM,[(b2,_)]]) YL Y (fun w1 br=>aF ((fun(br:St w (dM++((b2,_)::([]))) w1)=>Ru w1 (ci.keep br FR) (bV.keep br FR) (bU.keep br FR) (bY.keep br FR) (d6.sl br SG) _ (Ur gc)) br)) (by exact fun _ _ _ h=>h.1))) ?_;rintro jH _ ⟨w1,_,rfl,hle,-,_,ef,rfl,rfl,dV,cO⟩;replace cO:=Cov.base (w0:=w) cO hle;refine Mw (H':=ef++(dM++((b2,_)::([])))) Y ?_;refine⟨KM,?_⟩;refine Ba hok 6 Y Z Y (GM hok Z (Gt (GJ (Gy Y (Gy Y (Gs (GD (qW (vm Y (va Y (Gw ?_)))))))))));refine Gt (Hl ?_);subst h
   exact yA results65 Y _ KP (⟨_,ef,Y,Y,dV,cO⟩)
  .refine jS (wS (xQ Y (GI Y Y) (va Y (nS (wd Y h (fun dS h=>?_) fun dS h=>?_)))))
   .refine GJ (Gs (Gs (Gy Y (Gs (Gy Y (Gs (GD (GZ 4 (Gt (Gu (GK Z Z (fun hok=>?_))))))))))));refine Bw GP hok 0 Y Z Y mH (Bw GP hok 1 Y Z Y mH (Bf LC hok 2 Y Z Y (Bl zh HX hok 3 Y Z Y mH ?_)));obtain⟨jL,h⟩:=h;refine GV hok 4 [(37,_),(39,_)] Y Y Z (lc Y (lc Y ln)) Z trivial (OT.st (fun _ h=>h) (GC (Cs:=[]) (Rs:=[[(b2,_)]]) Ael Y (fun w1 br=>aF ((fun(br:St w ((b2,_)::([])) w1)=>Sy w1 (ci.keep br FR) (bV.keep br FR) (bU.keep br FR) (bY.keep br FR) (bU.keep br FR) _ (Ut jL)) br)) (by exact fun _ _ _ h=>h.1))) ?_;rintro sC _ ⟨w1,_,rfl,hle,-,_,nH,rfl,rfl,oC,gC⟩;replace gC:=Cov.base (w0:=w) gC hle;refine Iv (H':=nH++((b2,_)::([]))) Y ?_;refine⟨RA,KM,?_⟩;obtain⟨kE,h⟩:=h;refine Lh hok 2 5 [(36,_),(40,_)] Y Y Z Z (lc Y (lc Y ln)) Z trivial (OT.st (fun _ h=>h) (GC (Cs:=[]) (Rs:=[nH,[(b2,_)]]) U8 Y (fun w1 br=>aF ((fun(br:St w (nH++((b2,_)::([]))) w1)=>Jf w1 (ci.keep br FR) (bV.keep br FR) (bU.keep br FR) (bY.keep br FR) (oC.sl br SG) _ (JC kE)) br)) (by exact fun _ _ _ h=>h.1))) ?_;rintro sa _ ⟨w1,_,rfl,hle,-,_,jl,rfl,rfl,gU,ed⟩;replace ed:=Cov.base (w0:=w) ed hle;refine Mw (H':=jl++(nH++((b2,_)::([])))) Y ?_;refine⟨KM,?_⟩;refine Ba hok 6 Y Z Y (GM hok Z (Gt (GJ (GD (qW (vm Y (va Y (nV ?_))))))));subst h
    exact yA results65 Y _ KP (⟨_,jl,Y,Y,gU,ed⟩)
   .refine jW (xQ Y (GI Y Y) (va Y (nS (wd Y h (fun kC h=>?_) fun kC h=>?_))))
    .refine GJ (Gs (Gy Y (Gs (Gy Y (Gs (Gy Y (GD (Gt (Gu (GK Z Z (fun hok=>?_)))))))))));refine Bw GP hok 0 Y Z Y mH (Bw GP hok 1 Y Z Y mH (Bf LC hok 2 Y Z Y (Bl zh HX hok 3 Y Z Y mH ?_)));obtain⟨wB,h⟩:=h;refine GV hok 4 [(37,_),(39,_)] Y Y Z (lc Y (lc Y ln)) Z trivial (OT.st (fun _ h=>h) (GC (Cs:=[]) (Rs:=[[(b2,_)]]) Ael Y (fun w1 br=>aF ((fun(br:St w ((b2,_)::([])) w1)=>Sy w1 (ci.keep br FR) (bV.keep br FR) (bU.keep br FR) (bY.keep br FR) (bU.keep br FR) _ (Ut wB)) br)) (by exact fun _ _ _ h=>h.1))) ?_;rintro ww _ ⟨w1,_,rfl,hle,-,_,jk,rfl,rfl,jF,gf⟩;replace gf:=Cov.base (w0:=w) gf hle;refine Iv (H':=jk++((b2,_)::([]))) Y ?_;refine⟨RA,KM,?_⟩;obtain⟨iS,h⟩:=h;refine Lh hok 2 5 [(36,_),(40,_)] Y Y Z Z (lc Y (lc Y ln)) Z trivial (OT.st (fun _ h=>h) (GC (Cs:=[]) (Rs:=[jk,[(b2,_)]]) U8 Y (fun w1 br=>aF ((fun(br:St w (jk++((b2,_)::([]))) w1)=>Jf w1 (ci.keep br FR) (bV.keep br FR) (bU.keep br FR) (bY.keep br FR) (jF.sl br SG) _ (JC iS)) br)) (by exact fun _ _ _ h=>h.1))) ?_;rintro E4 _ ⟨w1,_,rfl,hle,-,_,BI,rfl,rfl,Bh,ra⟩;replace ra:=Cov.base (w0:=w) ra hle;refine Mw (H':=BI++(jk++((b2,_)::([])))) Y ?_;refine⟨KM,?_⟩;refine Ba hok 6 Y Z Y (GM hok Z (Gt (GJ (GD (qW (vm Y (va Y (nV ?_))))))));subst h
     exact yA results65 Y _ KP (⟨_,BI,Y,Y,Bh,ra⟩)
    .refine jT (GJ (Gy Y (Gs (Gy Y (Gs (Gy Y (Gy Y (Gs (GD (qW ?_))))))))));refine vm Y (va Y (nV ?_));subst h
     exact yA results65 Y _ KP (⟨_,[],Y,Y,OJ.nil,Cov.refl _⟩)
end Go.Proofs.YtljklmlodfbdnaaGreat
