/- Part 9 of the proof. -/
import Derived.Test.YtljklmlodfbdnaaGreatJ3
import Derived.Test.YtljklmlodfbdnaaGreatJ5
import Derived.Test.YtljklmlodfbdnaaGreatJ6
import Derived.Test.YtljklmlodfbdnaaGreatJ8
set_option maxHeartbeats 1000000
set_option maxRecDepth 100000
set_option linter.unusedVariables false
set_option linter.unusedSimpArgs false
set_option linter.unusedSectionVars false
set_option linter.unnecessarySimpa false
namespace Go.Proofs.YtljklmlodfbdnaaGreat
open Go Go.E Go.Proofs.Tryz
theorem Nr {r0} (w) (r) (h:SQ r0 r):Con prog 68 #[AI 2 r0] w (Is (.bool r) []):=by
 unfold SQ at h;refine ce func68 Y ntmps68 Y (wS (xr Y (He Y) ?_));rintro _ _ ⟨b1,ko,rfl,rfl⟩;refine va Y (nY (wk [] Y [(2,.bool ((((decide (0<r0 0))&&(decide (r0 0<251)))&&(decide ((-1)<r0 1)))&&(decide (r0 1<251))))] ?_ ?_))
 .refine Gr (Xf PS Y Y (Xi (r0 0) GF Y Y (xQ Y (Hz Y Y) (vm Y (IY 6 Y (fun bB=>?_) fun bB=>?_)))))
  .refine Xf PS Y Y (Xi (r0 0) GF Y Y (xQ Y (G6 Y Y) (vt Y (vm Y (IY 11 Y (fun bA=>?_) fun bA=>?_)))))
   .refine Xf Xy Y Y (Xi (r0 1) GF Y Y (xQ Y (Hz Y Y) (vt Y (vm Y (IY 16 Y (fun cx=>?_) fun cx=>?_)))))
    .exact Xf Xy Y Y (Xi (r0 1) GF Y Y (xQ Y (G6 Y Y) (vt Y (va Y (Ng bB bA cx)))))
    .exact vs Y (vs Y (vs Y (vf Y (va Y (Ng bB bA cx)))))
   .exact vs Y (vs Y (vs Y (vf Y (vm Y (vs Y (vs Y (vs Y (vf Y (va Y (P2 bB bA))))))))))
  .refine vs Y (vs Y (vs Y (vf Y (vm Y (vs Y (vs Y (vs Y (vf Y (vm Y (vs Y (vs Y (vs Y (vf Y ?_)))))))))))));exact va Y (Ma bB)
 .refine Gt (Hl ?_);subst h
  exact yA results68 Y [] KP (⟨Y,Y⟩)
theorem Ip {n0} (w) (r) (h:UU n0 r):Con prog 67 #[iI n0] w (Is (.bool r) []):=by
 unfold UU at h;refine ce func67 Y ntmps67 Y (wS (va Y (nY (wk [] Y [(2,.bool ((decide (0<n0))&&(decide (n0<=1048576))))] ?_ ?_))))
 .refine Gr (vm Y (xQ Y (Hz Y Y) (vm Y (IY 5 Y (fun bB=>?_) fun bB=>?_))))
  .exact vm Y (xQ Y (J1 Y Y) (vt Y (va Y (Ma bB))))
  .exact vs Y (vs Y (vf Y (va Y (Ma bB))))
 .refine Gt (Hl ?_);subst h
  exact rO results67 Y (⟨Y,Y⟩)
theorem Py {m0} (w) (r) (h:Qf m0 r):Con prog 29 #[AI 28 m0] w (Is (.bool r) []):=by
 unfold Qf at h;refine ce func29 Y ntmps29 Y (wS (xr Y (He Y) ?_));rintro _ _ ⟨b1,ko,rfl,rfl⟩;refine va Y (nY (Gu (wk [1] Y [(17,.bool ((decide (m0 0<1))||(decide (11<m0 0))))] ?_ ?_)))
 .refine Gr (Xf G9 Y Y (Xi (m0 0) GF Y Y (xQ Y (G6 Y Y) (vm Y (IY 13 Y (fun bB=>?_) fun bB=>?_)))))
  .exact Ma bB
  .exact Xf G9 Y Y (Xi (m0 0) GF Y Y (xQ Y (Hz Y Y) (Ma bB)))
 .refine Gt (wb Y h (fun bA h=>?_) fun bA h=>?_)
  .refine wS (va Y (nU ?_));subst h
   exact yA results29 Y [] KP (⟨Y,Y⟩)
  .refine jS (wk [1] Y [(3,.bool (((decide (m0 1=0))&&(decide (1<=m0 2)))&&(decide (m0 2<=64))))] ?_ ?_)
   .refine Gr (Xf IE Y Y (Xi (m0 1) GF Y Y (xQ Y (GI Y Y) (vm Y (IY 21 Y (fun cx=>?_) fun cx=>?_)))))
    .refine Xf Jz Y Y (Xi (m0 2) GF Y Y (xQ Y (Ie Y Y) (vt Y (vm Y (IY 26 Y (fun cb=>?_) fun cb=>?_)))))
     .exact Xf Jz Y Y (Xi (m0 2) GF Y Y (xQ Y (J1 Y Y) (vt Y (va Y (Ng bA cx cb)))))
     .exact vs Y (vs Y (vs Y (vf Y (va Y (Ng bA cx cb)))))
    .exact vs Y (vs Y (vs Y (vf Y (vm Y (vs Y (vs Y (vs Y (vf Y (va Y (P2 bA cx))))))))))
   .refine Gt (Gu (wk [1,3] Y [(4,.bool (((decide (m0 2=0))&&(decide (1<=m0 1)))&&(decide (m0 1<=64))))] ?_ ?_))
    .refine Gr (Xf Jz Y Y (Xi (m0 2) GF Y Y (xQ Y (GI Y Y) (vm Y (IY 34 Y (fun dU=>?_) fun dU=>?_)))))
     .refine Xf IE Y Y (Xi (m0 1) GF Y Y (xQ Y (Ie Y Y) (vt Y (vm Y (IY 39 Y (fun ct=>?_) fun ct=>?_)))))
      .exact Xf IE Y Y (Xi (m0 1) GF Y Y (xQ Y (J1 Y Y) (vt Y (va Y (Ng bA dU ct)))))
      .exact vs Y (vs Y (vs Y (vf Y (va Y (Ng bA dU ct)))))
     .exact vs Y (vs Y (vs Y (vf Y (vm Y (vs Y (vs Y (vs Y (vf Y (va Y (P2 bA dU))))))))))
    .refine qW (va Y (nR (vm Y (Xf G9 Y Y (Xi (m0 0) GF Y Y ?_)))));obtain⟨kD,h⟩:=h;refine xQ Y (Ke Y Y Y kD) ?_;obtain⟨nP,h⟩:=h;refine xQ Y (Afu underlying9 Y Y nP) (va Y (nY (Gu (wk [1] Y [(70,.bool ((((decide (RD (⟨#[111,98,98,111,98,111,98,111,98,98,101]⟩:ByteArray) ((m0 0)-1)=111))&&(!(((decide (m0 1=0))&&(decide (1<=m0 2)))&&(decide (m0 2<=64)))))||((decide (RD (⟨#[111,98,98,111,98,111,98,111,98,98,101]⟩:ByteArray) ((m0 0)-1)=98))&&(!(((decide (m0 2=0))&&(decide (1<=m0 1)))&&(decide (m0 1<=64))))))||((!(((decide (m0 1=0))&&(decide (1<=m0 2)))&&(decide (m0 2<=64))))&&(!(((decide (m0 2=0))&&(decide (1<=m0 1)))&&(decide (m0 1<=64)))))))] ?_ ?_))))
     .refine Gr (vm Y (xQ Y (GI Y Y) (vm Y (IY 51 Y (fun cQ=>?_) fun cQ=>?_))))
      .refine vm Y (xQ Y (Hh Y) (vt Y (vm Y (QC 55 Y (fun cg=>?_) fun cg=>?_))))
       .exact Ng bA cQ cg
       .refine vm Y (xQ Y (GI Y Y) (vm Y (QJ 58 Y (v':=.bool false) (congrArg Value.bool (by simp;omega)) (vs Y (vs Y (vf Y (vf Y (vm Y (vm Y (xQ Y (Hh Y) (vm Y (QJ 66 Y (v':=.bool false) (congrArg Value.bool (nF2 (cg))) (vs Y ?_)))))))))))));exact Ng bA cQ cg
      .refine vs Y (vs Y (vf Y (vm Y (vm Y (xQ Y (GI Y Y) (vm Y (IY 58 Y (fun dL=>?_) fun dL=>?_)))))))
       .refine vm Y (xQ Y (Hh Y) (vt Y (vf Y (vm Y (QC 63 Y (fun dd=>?_) fun dd=>?_)))))
        .exact V2 bA cQ dL dd
        .refine vm Y (xQ Y (Hh Y) (vm Y (QC 66 Y (fun eM=>?_) fun eM=>?_)))
         .exact vm Y (xQ Y (Hh Y) (VQf bA cQ dL dd eM))
         .exact VQf bA cQ dL dd eM
       .refine vs Y (vs Y (vf Y (vf Y (vm Y (vm Y (xQ Y (Hh Y) (vm Y (QC 66 Y (fun dm=>?_) fun dm=>?_))))))))
        .exact vm Y (xQ Y (Hh Y) (V2 bA cQ dL dm))
        .exact V2 bA cQ dL dm
     .refine Gt (wb Y h (fun cn h=>?_) fun cn h=>?_)
      .refine wS (va Y (nU ?_));subst h
       exact yA results29 Y [] KP (⟨Y,Y⟩)
      .refine jW (Xf G9 Y Y (Xi (m0 0) GF Y Y (Xf IE Y Y (Xi (m0 1) GF Y Y (Xf Jz Y Y (Xi (m0 2) GF Y Y (xQ Y (Ht XC Lf (.int G9 Y Y (.int IE Y Y (.int Jz Y Y (.nil _))))) (xr Y (H8 Lf Y) ?_))))))));rintro _ _ ⟨b7,BP,rfl,rfl⟩;refine xZ Y (JF Y Y Hm mH uH) (nY (wS (Xf G9 Y Y (Xi (m0 0) GF Y Y (xQ Y (GI Y Y) (nS (wd Y h (fun cq h=>?_) fun cq h=>?_)))))))
       .refine wS (Xf Ko Y Y (Xi (m0 11) GF Y Y (Xf Ko Y Y (xZ Y (HS Y Y GF mH U uH) (nR (Xf Iu Y Y (xQ Y (Jx Y Afa (mT mH) U (fun _ _=>Y)) (Xf Iu Y Y (xZ Y (UP Y Y Afa mH U uH) ?_)))))))));refine nR (Xf Hx Y Y (Xi (m0 9) GF Y Y (Xf Hx Y Y (xZ Y (HS Y Y GF mH U uH) (nR (Xf Lv Y Y (Xi (m0 10) GF Y Y ?_)))))));refine Xf Lv Y Y (xZ Y (HS Y Y GF mH U uH) (nY (Gu (wk [1,7] Y [(116,.bool (((((decide (m0 11<1))||(decide (8<m0 11)))||(!((HB (m0 9)))))||(decide (m0 10<0)))||(decide (1048576<m0 10))))] ?_ ?_))))
        .refine Gr (Xf Ko Y Y (Xi (m0 11) GF Y Y (xQ Y (G6 Y Y) (vm Y (IY 96 Y (fun kl=>?_) fun kl=>?_)))))
         .exact V2 bA cn cq kl
         .refine Xf Ko Y Y (Xi (m0 11) GF Y Y (xQ Y (Hz Y Y) (vf Y (vm Y (IY 101 Y (fun dS=>?_) fun dS=>?_)))))
          .exact VQf bA cn cq kl dS
          .refine Xf Hx Y Y (Xi (m0 9) GF Y Y (xc Y Te Y (fun w1 br=>Ip w1 _ (IM)) (xQ Y (Hh Y) (vf Y (vm Y (QC 107 Y (fun eW=>?_) fun eW=>?_))))))
           .exact VQg bA cn cq kl dS eW
           .refine Xf Lv Y Y (Xi (m0 10) GF Y Y (xQ Y (G6 Y Y) (vf Y (vm Y (IY 112 Y (fun oT=>?_) fun oT=>?_)))))
            .exact VQh bA cn cq kl dS eW oT
            .exact Xf Lv Y Y (Xi (m0 10) GF Y Y (xQ Y (Hz Y Y) (VQh bA cn cq kl dS eW oT)))
        .refine Gt (wb Y h (fun sV h=>?_) fun sV h=>?_)
         .refine wS (va Y (nU (Gx ?_)));subst h
          exact yA results29 Y [] KP (⟨Y,Y⟩)
         .refine jS (wS (va Y (nS (Gz ?_))));obtain⟨x1,fq,h⟩:=h;refine xL (fun(i8:Int) e H=>e=[(1,.pointer (some ⟨b1,0,none⟩)),(7,.pointer (some ⟨b7,0,none⟩)),(8,iI i8)]/\H=(b7,BK 28 (iv (Gq (Gq (GX (Gq (Gq (Gq (Gq (fun _=>0) 0 (m0 0)) 1 (m0 1)) 2 (m0 2)) 11 (m0 11)) 12 16 (fun i=>m0 (12+i))) 9 (m0 9)) 10 (m0 10))) 45)::((b1,BK 28 (iv m0) 45)::([]))) (fun x ex e H=>match x with | .inl _=>ex=.exit 0/\e=[(1,.pointer (some ⟨b1,0,none⟩)),(7,.pointer (some ⟨b7,0,none⟩))]/\H=(b7,BK 28 (iv (Gq (Gq (GX (Gq (Gq (Gq (Gq (fun _=>0) 0 (m0 0)) 1 (m0 1)) 2 (m0 2)) 11 (m0 11)) 12 16 (fun i=>m0 (12+i))) 9 (m0 9)) 10 (m0 10))) 45)::((b1,BK 28 (iv m0) 45)::([])) | .inr _=>ex=.ret/\e=[(2,.bool false)]/\H=(b7,BK 28 (iv (Gq (Gq (GX (Gq (Gq (Gq (Gq (fun _=>0) 0 (m0 0)) 1 (m0 1)) 2 (m0 2)) 11 (m0 11)) 12 16 (fun i=>m0 (12+i))) 9 (m0 9)) 10 (m0 10))) 45)::((b1,BK 28 (iv m0) 45)::([]))) fq ⟨Y,Y⟩ ?_ ?_
          .rintro i8 o _ _ ⟨rfl,rfl⟩ hb;have h:Ku m0 i8 o:=hb
           clear hb;unfold Ku at h;refine Gu (wS (vm Y (xQ Y (G6 Y Y) (nS (wd Y h (fun lM h=>?_) fun lM h=>?_)))))
           .refine jS (Gz (Gu (wS (vm Y (Xf Ko Y Y (Xi (m0 11) GF Y Y (xQ Y (Ie Y Y) (nS (wd Y h (fun kC h=>?_) fun kC h=>?_)))))))))
            .refine Gu (Gu ?_);obtain⟨wB,jA,h⟩:=h;refine wk [1,7,8] Y [(138,.bool ((!(decide (m0 (12+(i8.toNat*2))=0)))||(!(decide (m0 ((12+(i8.toNat*2))+1)=0)))))] ?_ ?_
             .refine Gr (vm Y (Xf Iu Y Y (xQ Y (KY OZ Y Y (wB) Y) (xQ Y (L4 Kz Y) (xQ Y (TH (v:=m0 (12+(i8.toNat*2))) Y GF (mT mH) (by have:=(wB);omega) Y) (xQ Y (Hr Y Y) (vm Y (Ub 131 Y (fun qJ=>?_) fun qJ=>?_))))))))
              .exact Ng lM kC qJ
              .exact vm Y (Xf Iu Y Y (xQ Y (KY OZ Y Y (jA (Za (nF1 qJ) lM kC qJ)) Y) (xQ Y (L4 Rb Y) (xQ Y (TH (v:=m0 ((12+(i8.toNat*2))+1)) Y GF (mT mH) (by have:=(jA (Za (nF1 qJ) lM kC qJ));omega) Y) (xQ Y (Hr Y Y) (Ng lM kC qJ))))))
             .refine Gt (wb Y h (fun qI h=>?_) fun qI h=>?_)
              .exact wS (va Y (nU (Gx (GB (Gx (xO h ⟨Y,Y,Y⟩))))))
              .refine jT (GJ (Gs (GD (Gt (Gr (vm Y ?_))))));obtain⟨pV,h⟩:=h;exact xQ Y (Hk Y Y Y pV) (va Y (Gw (xN h ⟨Y,Y⟩)))
            .refine jS (Gu ?_);obtain⟨oW,oV,h⟩:=h;refine wk [1,7,8] Y [(154,.bool ((!((HB (m0 (12+(i8.toNat*2))))))||(!((HB (m0 ((12+(i8.toNat*2))+1)))))))] ?_ ?_
             .refine Gr (vm Y (Xf Iu Y Y (xQ Y (KY OZ Y Y (oW) Y) (xQ Y (L4 Kz Y) (xQ Y (TH (v:=m0 (12+(i8.toNat*2))) Y GF (mT mH) (by have:=(oW);omega) Y) (xc Y Te Y (fun w1 br=>Ip w1 _ (IM)) (xQ Y (Hh Y) (vm Y (QC 146 Y (fun oS=>?_) fun oS=>?_)))))))))
              .exact Ng lM kC oS
              .exact vm Y (Xf Iu Y Y (xQ Y (KY OZ Y Y (oV (Za (nF2 oS) lM kC oS)) Y) (xQ Y (L4 Rb Y) (xQ Y (TH (v:=m0 ((12+(i8.toNat*2))+1)) Y GF (mT mH) (by have:=(oV (Za (nF2 oS) lM kC oS));omega) Y) (xc Y Te Y (fun w1 br=>Ip w1 _ (IM)) (xQ Y (Hh Y) (Ng lM kC oS)))))))
             .refine Gt (wb Y h (fun pU h=>?_) fun pU h=>?_)
              .exact wS (va Y (nU (GB (Gx (xO h ⟨Y,Y,Y⟩)))))
              .refine jW (va Y (nS (Gz ?_)));obtain⟨x2,kA,h⟩:=h;refine xL (fun(k9:Int) e H=>e=[(1,.pointer (some ⟨b1,0,none⟩)),(7,.pointer (some ⟨b7,0,none⟩)),(8,iI i8),(9,iI k9)]/\H=(b7,BK 28 (iv (Gq (Gq (GX (Gq (Gq (Gq (Gq (fun _=>0) 0 (m0 0)) 1 (m0 1)) 2 (m0 2)) 11 (m0 11)) 12 16 (fun i=>m0 (12+i))) 9 (m0 9)) 10 (m0 10))) 45)::((b1,BK 28 (iv m0) 45)::([]))) (fun x ex e H=>match x with | .inl _=>ex=.exit 2/\e=[(1,.pointer (some ⟨b1,0,none⟩)),(7,.pointer (some ⟨b7,0,none⟩)),(8,iI i8)]/\H=(b7,BK 28 (iv (Gq (Gq (GX (Gq (Gq (Gq (Gq (fun _=>0) 0 (m0 0)) 1 (m0 1)) 2 (m0 2)) 11 (m0 11)) 12 16 (fun i=>m0 (12+i))) 9 (m0 9)) 10 (m0 10))) 45)::((b1,BK 28 (iv m0) 45)::([])) | .inr _=>ex=.ret/\e=[(2,.bool false)]/\H=(b7,BK 28 (iv (Gq (Gq (GX (Gq (Gq (Gq (Gq (fun _=>0) 0 (m0 0)) 1 (m0 1)) 2 (m0 2)) 11 (m0 11)) 12 16 (fun i=>m0 (12+i))) 9 (m0 9)) 10 (m0 10))) 45)::((b1,BK 28 (iv m0) 45)::([]))) kA ⟨Y,Y⟩ ?_ ?_
               .rintro k9 o _ _ ⟨rfl,rfl⟩ hb;have h:Kt m0 i8 k9 o:=hb
                clear hb;unfold Kt at h;refine Gu (wS (vm Y (vm Y (xQ Y (G6 Y Y) (nS (wd Y h (fun yl h=>?_) fun yl h=>?_))))))
                .refine jS (Gz (Gu (GK Z Z (fun hok=>?_))));refine Bm hok 0 Y Z Y (Bf Iu hok 1 Y Z Y ?_);obtain⟨sj,h⟩:=h;refine xb hok 2 [161,160] Y Z (fun _ hK=>KY OZ Y Y sj Y) (xb hok 3 [162] Y Z (fun _ hK=>L4 Kz Y) (NN hok 4 [163] ((b1,_)::([])) (rsC (mT mH) Nd) Y Z (fun _ hy hK=>TH (v:=m0 (12+(k9.toNat*2))) Y GF (hy _ mH) (by have:=sj;omega) Y) (Bm hok 5 Y Z Y (Bf Iu hok 6 Y Z Y ?_))));obtain⟨qL,h⟩:=h;refine xb hok 7 [166,165] Y Z (fun _ hK=>KY OZ Y Y qL Y) (xb hok 8 [167] Y Z (fun _ hK=>L4 Kz Y) (NN hok 9 [168] ((b1,_)::([])) (rsC (mT mH) Nd) Y Z (fun _ hy hK=>TH (v:=m0 (12+(i8.toNat*2))) Y GF (hy _ mH) (by have:=qL;omega) Y) (xb hok 10 [164,169] Y Z (fun _ hK=>GI Y Y) (GM hok Z (Gt (wd Y h (fun Dh h=>?_) fun Dh h=>?_))))))
                 .exact wS (va Y (nV (GB (Gx (xO h ⟨Y,Y,Y⟩)))))
                 .refine GY (GZ 3 (Gt (Gr (vm Y ?_))));obtain⟨yq,h⟩:=h;exact xQ Y (Hk Y Y Y yq) (va Y (Gw (xN h ⟨Y,Y⟩)))
                .exact GJ (Gs (xO h ⟨Y,Y,Y⟩))
               .rcases x2 with _ | x2
                .rintro _ _ _ ⟨rfl,rfl,rfl⟩;replace h:Pv i8 o:=h;unfold Pv at h;refine GD (GZ 1 (Gt (Gr (vm Y ?_))));obtain⟨Dy,h⟩:=h;exact xQ Y (Hk Y Y Y Dy) (va Y (Gw (xN h ⟨Y,Y⟩)))
                cases x2
                rintro _ _ _ ⟨rfl,rfl,rfl⟩;replace h:Pu o:=h;unfold Pu at h;exact GB (GB (Gx (xO h ⟨Y,Y,Y⟩)))
           .exact GJ (Gs (xO h ⟨Y,Y,Y⟩))
          .rcases x1 with _ | x1
           .rintro _ _ _ ⟨rfl,rfl,rfl⟩;replace h:Px m0 r:=h;unfold Px at h;refine GD (qW (xQ Y (GA Y Hm (mT mH)) (xQ Y (GA Y Hm mH) (xQ Y (Io Lx Y Y) (va Y (nU ?_))))));subst h
            exact yA results29 Y [] KP (⟨Y,Y⟩)
           cases x1
           rintro _ _ _ ⟨rfl,rfl,rfl⟩;replace h:Pw r:=h;unfold Pw at h;refine GB (Gx (Gx ?_));subst h
           exact yA results29 Y [] KP (⟨Y,Y⟩)
       .refine jW (Xf HG Y Y (Xi (m0 3) GF Y Y (Xf HG Y Y (xZ Y (HS Y Y GF mH U uH) (nY (wS (Xf HG Y Y ?_)))))));refine Xi (m0 3) GF Y Y (xc Y Te Y (fun w1 br=>Ip w1 _ (IM)) (xQ Y (Hh Y) (nS (wc Y h (fun cF h=>?_) fun cF h=>?_))))
        .refine wS (va Y (nU ?_));subst h
         exact yA results29 Y [] KP (⟨Y,Y⟩)
        .refine jS (wS (Xf G9 Y Y (Xi (m0 0) GF Y Y (xQ Y (J1 Y Y) (nS (wd Y h (fun cE h=>?_) fun cE h=>?_))))))
         .refine wS (Xf K9 Y Y (Xi (m0 4) GF Y Y (Xf K9 Y Y (xZ Y (HS Y Y GF mH U uH) (nR (Xf K9 Y Y (Xi (m0 4) GF Y Y (xc Y Te Y (fun w1 br=>Ip w1 _ (IM)) (xQ Y (Hh Y) ?_)))))))));refine nS (wc Y h (fun fu h=>?_) fun fu h=>?_)
          .refine wS (va Y (nU ?_));subst h
           exact yA results29 Y [] KP (⟨Y,Y⟩)
          .refine jS (wS (Xf G9 Y Y (Xi (m0 0) GF Y Y (xQ Y (J1 Y Y) (nS (wd Y h (fun ft h=>?_) fun ft h=>?_))))))
           .refine wS (Xf Ky Y Y (xQ Y (Jx Y I4 (mT mH) U (fun _ _=>Y)) (Xf Ky Y Y (xZ Y (UP Y Y I4 mH U uH) (nR (Xf J4 Y Y (Xi (m0 7) NA Y Y (Xf J4 Y Y (xZ Y (HS Y Y NA mH U uH) ?_)))))))));refine nY (wk [1,7] Y [(213,.bool (((!((Iy (fun i=>m0 (5+i)))))||(decide (m0 7<1)))||(decide (4<m0 7))))] ?_ ?_)
            .refine Gr (Xf Ky Y Y (xQ Y (Jx Y I4 (mT mH) U (fun _ _=>Y)) (xc Y AfC Y (fun w1 br=>Nr w1 _ (Oz)) (xQ Y (Hh Y) (vm Y (QC 204 Y (fun wz=>?_) fun wz=>?_))))))
             .exact VQi bA cn cq cF cE fu ft wz
             .refine Xf J4 Y Y (Xi (m0 7) NA Y Y (xQ Y (G6 Y Y) (vf Y (vm Y (IY 209 Y (fun sT=>?_) fun sT=>?_)))))
              .exact VQj bA cn cq cF cE fu ft wz sT
              .exact Xf J4 Y Y (Xi (m0 7) NA Y Y (xQ Y (Hz Y Y) (VQj bA cn cq cF cE fu ft wz sT)))
            .refine Gt (wb Y h (fun kj h=>?_) fun kj h=>?_)
             .refine wS (va Y (nU ?_));subst h
              exact yA results29 Y [] KP (⟨Y,Y⟩)
             .refine jS (wS (Xf G9 Y Y (Xi (m0 0) GF Y Y (xQ Y (GI Y Y) (nS (wd Y h (fun jy h=>?_) fun jy h=>?_))))))
              .refine wS (Xf Hi Y Y (Xi (m0 8) GF Y Y (Xf Hi Y Y (xZ Y (HS Y Y GF mH U uH) (nY (wk [1,7] Y [(227,.bool ((decide (m0 8<1))||(decide (15<m0 8))))] ?_ ?_))))))
               .refine Gr (Xf Hi Y Y (Xi (m0 8) GF Y Y (xQ Y (G6 Y Y) (vm Y (IY 223 Y (fun yj=>?_) fun yj=>?_)))))
                .exact VQk bA cn cq cF cE fu ft kj jy yj
                .exact Xf Hi Y Y (Xi (m0 8) GF Y Y (xQ Y (Hz Y Y) (VQk bA cn cq cF cE fu ft kj jy yj)))
               .refine Gt (wb Y h (fun pS h=>?_) fun pS h=>?_)
                .refine wS (va Y (nU ?_));subst h
                 exact yA results29 Y [] KP (⟨Y,Y⟩)
                .refine jS (Gu (wk [1,7] Y [(235,.bool ((decide (m0 0=5))||(decide (m0 0=6))))] ?_ ?_))
                 .exact Gr (Xf G9 Y Y (Xi (m0 0) GF Y Y (xQ Y (GI Y Y) (vm Y (QJ 231 Y (v':=.bool false) (congrArg Value.bool (by simp;omega)) (Xf G9 Y Y (Xi (m0 0) GF Y Y (xQ Y (GI Y Y) (VQk bA cn cq cF cE fu ft kj jy pS)))))))))
                 .refine Gt (wb Y h (fun lh h=>?_) fun lh h=>?_)
                  .refine wS (Xf Hi Y Y (Xi (m0 8) GF Y Y (Xf Hi Y Y (xZ Y (HS Y Y GF mH U uH) (nY (wk [1,7] Y [(246,.bool ((!(decide (m0 8=0)))&&(!(decide (m0 8=1)))))] ?_ ?_))))))
                   .refine Gr (Xf Hi Y Y (Xi (m0 8) GF Y Y (xQ Y (Hr Y Y) (vm Y (Ub 242 Y (fun qG=>?_) fun qG=>?_)))))
                    .exact Xf Hi Y Y (Xi (m0 8) GF Y Y (xQ Y (Hr Y Y) (vt Y (Gw (qk Y (by simp[bA,cn,cq,cF,cE,fu,ft,kj,jy,pS,lh,qG]) Y)))))
                    .exact vs Y (vs Y (vs Y (vf Y (Gw (qk Y (by simp[bA,cn,cq,cF,cE,fu,ft,kj,jy,pS,lh,qG]) Y)))))
                   .refine Gt (wb Y h (fun oa h=>?_) fun oa h=>?_)
                    .refine wS (va Y (nU ?_));subst h
                     exact yA results29 Y [] KP (⟨Y,Y⟩)
                    .refine jS (wS (Xf G9 Y Y (Xi (m0 0) GF Y Y (xQ Y (GI Y Y) (nS (GW Y (by simp;omega) (jS ?_)))))));refine Gr (xQ Y (GA Y Hm (mT mH)) (xQ Y (GA Y Hm mH) (xQ Y (Io Lx Y Y) (va Y (nV ?_)))));subst h
                     exact yA results29 Y [] KP (⟨Y,Y⟩)
                  .refine jS (wS (Xf G9 Y Y (Xi (m0 0) GF Y Y (xQ Y (GI Y Y) (nS (GW Y (by simp;omega) (jS ?_)))))));refine Gr (xQ Y (GA Y Hm (mT mH)) (xQ Y (GA Y Hm mH) (xQ Y (Io Lx Y Y) (va Y (nV ?_)))));subst h
                   exact yA results29 Y [] KP (⟨Y,Y⟩)
              .refine jS (Gu (wk [1,7] Y [(235,.bool ((decide (m0 0=5))||(decide (m0 0=6))))] ?_ ?_))
               .refine Gr (Xf G9 Y Y (Xi (m0 0) GF Y Y (xQ Y (GI Y Y) (vm Y (IY 231 Y (fun qF=>?_) fun qF=>?_)))))
                .exact VQk bA cn cq cF cE fu ft kj jy qF
                .exact Xf G9 Y Y (Xi (m0 0) GF Y Y (xQ Y (GI Y Y) (VQk bA cn cq cF cE fu ft kj jy qF)))
               .refine Gt (wb Y h (fun kB h=>?_) fun kB h=>?_)
                .refine wS (Xf Hi Y Y (Xi (m0 8) GF Y Y (Xf Hi Y Y (xZ Y (HS Y Y GF mH U uH) (nY (wk [1,7] Y [(246,.bool ((!(decide (m0 8=0)))&&(!(decide (m0 8=1)))))] ?_ ?_))))))
                 .refine Gr (Xf Hi Y Y (Xi (m0 8) GF Y Y (xQ Y (Hr Y Y) (vm Y (Ub 242 Y (fun n9=>?_) fun n9=>?_)))))
                  .exact Xf Hi Y Y (Xi (m0 8) GF Y Y (xQ Y (Hr Y Y) (vt Y (Gw (qk Y (by simp[bA,cn,cq,cF,cE,fu,ft,kj,jy,kB,n9]) Y)))))
                  .exact vs Y (vs Y (vs Y (vf Y (Gw (qk Y (by simp[bA,cn,cq,cF,cE,fu,ft,kj,jy,kB,n9]) Y)))))
                 .refine Gt (wb Y h (fun qE h=>?_) fun qE h=>?_)
                  .refine wS (va Y (nU ?_));subst h
                   exact yA results29 Y [] KP (⟨Y,Y⟩)
                  .refine jS (wS (Xf G9 Y Y (Xi (m0 0) GF Y Y (xQ Y (GI Y Y) (nS (wd Y h (fun qD h=>?_) fun qD h=>?_))))))
                   .refine wS (Xf Hx Y Y (Xi (m0 9) GF Y Y (Xf Hx Y Y (xZ Y (HS Y Y GF mH U uH) (nY (wk [1,7] Y [(263,.bool ((!((HB (m0 9))))||(decide (m0 3<=m0 9))))] ?_ ?_))))))
                    .refine Gr (Xf Hx Y Y (Xi (m0 9) GF Y Y (xc Y Te Y (fun w1 br=>Ip w1 _ (IM)) (xQ Y (Hh Y) (vm Y (QC 257 Y (fun n8=>?_) fun n8=>?_))))))
                     .exact vs Y (vs Y (vs Y (vs Y (vs Y (vt Y (Gw (qk Y (by simp[bA,cn,cq,cF,cE,fu,ft,kj,jy,kB,qE,qD,n8]) Y)))))))
                     .exact Xf Hx Y Y (Xi (m0 9) GF Y Y (Xf HG Y Y (Xi (m0 3) GF Y Y (xQ Y (Ie Y Y) (vf Y (Gw (qk Y (by simp[bA,cn,cq,cF,cE,fu,ft,kj,jy,kB,qE,qD,n8]) Y)))))))
                    .refine Gt (wb Y h (fun sS h=>?_) fun sS h=>?_)
                     .refine wS (va Y (nU ?_));subst h
                      exact yA results29 Y [] KP (⟨Y,Y⟩)
                     .refine jW (xQ Y (GA Y Hm (mT mH)) (xQ Y (GA Y Hm mH) (xQ Y (Io Lx Y Y) (va Y (nV ?_)))));subst h
                      exact yA results29 Y [] KP (⟨Y,Y⟩)
                   .refine jW (xQ Y (GA Y Hm (mT mH)) (xQ Y (GA Y Hm mH) (xQ Y (Io Lx Y Y) (va Y (nV ?_)))));subst h
                    exact yA results29 Y [] KP (⟨Y,Y⟩)
                .refine jS (wS (Xf G9 Y Y (Xi (m0 0) GF Y Y (xQ Y (GI Y Y) (nS (wd Y h (fun oR h=>?_) fun oR h=>?_))))))
                 .refine wS (Xf Hx Y Y (Xi (m0 9) GF Y Y (Xf Hx Y Y (xZ Y (HS Y Y GF mH U uH) (nY (wk [1,7] Y [(263,.bool ((!((HB (m0 9))))||(decide (m0 3<=m0 9))))] ?_ ?_))))))
                  .refine Gr (Xf Hx Y Y (Xi (m0 9) GF Y Y (xc Y Te Y (fun w1 br=>Ip w1 _ (IM)) (xQ Y (Hh Y) (vm Y (QC 257 Y (fun n7=>?_) fun n7=>?_))))))
                   .exact vs Y (vs Y (vs Y (vs Y (vs Y (vt Y (Gw (qk Y (by simp[bA,cn,cq,cF,cE,fu,ft,kj,jy,kB,oR,n7]) Y)))))))
                   .exact Xf Hx Y Y (Xi (m0 9) GF Y Y (Xf HG Y Y (Xi (m0 3) GF Y Y (xQ Y (Ie Y Y) (vf Y (Gw (qk Y (by simp[bA,cn,cq,cF,cE,fu,ft,kj,jy,kB,oR,n7]) Y)))))))
                  .refine Gt (wb Y h (fun sR h=>?_) fun sR h=>?_)
                   .refine wS (va Y (nU ?_));subst h
                    exact yA results29 Y [] KP (⟨Y,Y⟩)
                   .refine jW (xQ Y (GA Y Hm (mT mH)) (xQ Y (GA Y Hm mH) (xQ Y (Io Lx Y Y) (va Y (nV ?_)))));subst h
                    exact yA results29 Y [] KP (⟨Y,Y⟩)
                 .refine jW (xQ Y (GA Y Hm (mT mH)) (xQ Y (GA Y Hm mH) (xQ Y (Io Lx Y Y) (va Y (nV ?_)))));subst h
                  exact yA results29 Y [] KP (⟨Y,Y⟩)
           .refine jS (wS (Xf G9 Y Y (Xi (m0 0) GF Y Y (xQ Y (GI Y Y) (nS (wd Y h (fun hE h=>?_) fun hE h=>?_))))))
            .refine wS (Xf Hi Y Y (Xi (m0 8) GF Y Y (Xf Hi Y Y (xZ Y (HS Y Y GF mH U uH) (nY (wk [1,7] Y [(227,.bool ((decide (m0 8<1))||(decide (15<m0 8))))] ?_ ?_))))))
             .refine Gr (Xf Hi Y Y (Xi (m0 8) GF Y Y (xQ Y (G6 Y Y) (vm Y (IY 223 Y (fun nZ=>?_) fun nZ=>?_)))))
              .exact VQj bA cn cq cF cE fu ft hE nZ
              .exact Xf Hi Y Y (Xi (m0 8) GF Y Y (xQ Y (Hz Y Y) (VQj bA cn cq cF cE fu ft hE nZ)))
             .refine Gt (wb Y h (fun pR h=>?_) fun pR h=>?_)
              .refine wS (va Y (nU ?_));subst h
               exact yA results29 Y [] KP (⟨Y,Y⟩)
              .refine jS (Gu (wk [1,7] Y [(235,.bool ((decide (m0 0=5))||(decide (m0 0=6))))] ?_ ?_))
               .exact Gr (Xf G9 Y Y (Xi (m0 0) GF Y Y (xQ Y (GI Y Y) (vm Y (QJ 231 Y (v':=.bool false) (congrArg Value.bool (by simp;omega)) (Xf G9 Y Y (Xi (m0 0) GF Y Y (xQ Y (GI Y Y) (VQj bA cn cq cF cE fu ft hE pR)))))))))
               .refine Gt (wb Y h (fun pQ h=>?_) fun pQ h=>?_)
                .refine wS (Xf Hi Y Y (Xi (m0 8) GF Y Y (Xf Hi Y Y (xZ Y (HS Y Y GF mH U uH) (nY (wk [1,7] Y [(246,.bool ((!(decide (m0 8=0)))&&(!(decide (m0 8=1)))))] ?_ ?_))))))
                 .refine Gr (Xf Hi Y Y (Xi (m0 8) GF Y Y (xQ Y (Hr Y Y) (vm Y (Ub 242 Y (fun sQ=>?_) fun sQ=>?_)))))
                  .exact Xf Hi Y Y (Xi (m0 8) GF Y Y (xQ Y (Hr Y Y) (vt Y (Gw (qk Y (by simp[bA,cn,cq,cF,cE,fu,ft,hE,pR,pQ,sQ]) Y)))))
                  .exact vs Y (vs Y (vs Y (vf Y (Gw (qk Y (by simp[bA,cn,cq,cF,cE,fu,ft,hE,pR,pQ,sQ]) Y)))))
                 .refine Gt (wb Y h (fun Dg h=>?_) fun Dg h=>?_)
                  .refine wS (va Y (nU ?_));subst h
                   exact yA results29 Y [] KP (⟨Y,Y⟩)
                  .refine jS (wS (Xf G9 Y Y (Xi (m0 0) GF Y Y (xQ Y (GI Y Y) (nS (GW Y (by simp;omega) (jS ?_)))))));refine Gr (xQ Y (GA Y Hm (mT mH)) (xQ Y (GA Y Hm mH) (xQ Y (Io Lx Y Y) (va Y (nV ?_)))));subst h
                   exact yA results29 Y [] KP (⟨Y,Y⟩)
                .refine jS (wS (Xf G9 Y Y (Xi (m0 0) GF Y Y (xQ Y (GI Y Y) (nS (GW Y (by simp;omega) (jS ?_)))))));refine Gr (xQ Y (GA Y Hm (mT mH)) (xQ Y (GA Y Hm mH) (xQ Y (Io Lx Y Y) (va Y (nV ?_)))));subst h
                 exact yA results29 Y [] KP (⟨Y,Y⟩)
            .refine jS (Gu (wk [1,7] Y [(235,.bool ((decide (m0 0=5))||(decide (m0 0=6))))] ?_ ?_))
             .refine Gr (Xf G9 Y Y (Xi (m0 0) GF Y Y (xQ Y (GI Y Y) (vm Y (IY 231 Y (fun yh=>?_) fun yh=>?_)))))
              .exact VQj bA cn cq cF cE fu ft hE yh
              .exact Xf G9 Y Y (Xi (m0 0) GF Y Y (xQ Y (GI Y Y) (VQj bA cn cq cF cE fu ft hE yh)))
             .refine Gt (wb Y h (fun qB h=>?_) fun qB h=>?_)
              .refine wS (Xf Hi Y Y (Xi (m0 8) GF Y Y (Xf Hi Y Y (xZ Y (HS Y Y GF mH U uH) (nY (wk [1,7] Y [(246,.bool ((!(decide (m0 8=0)))&&(!(decide (m0 8=1)))))] ?_ ?_))))))
               .refine Gr (Xf Hi Y Y (Xi (m0 8) GF Y Y (xQ Y (Hr Y Y) (vm Y (Ub 242 Y (fun lg=>?_) fun lg=>?_)))))
                .exact Xf Hi Y Y (Xi (m0 8) GF Y Y (xQ Y (Hr Y Y) (VQk bA cn cq cF cE fu ft hE qB lg)))
                .exact VQk bA cn cq cF cE fu ft hE qB lg
               .refine Gt (wb Y h (fun yg h=>?_) fun yg h=>?_)
                .refine wS (va Y (nU ?_));subst h
                 exact yA results29 Y [] KP (⟨Y,Y⟩)
                .refine jS (wS (Xf G9 Y Y (Xi (m0 0) GF Y Y (xQ Y (GI Y Y) (nS (wd Y h (fun yf h=>?_) fun yf h=>?_))))))
                 .refine wS (Xf Hx Y Y (Xi (m0 9) GF Y Y (Xf Hx Y Y (xZ Y (HS Y Y GF mH U uH) (nY (wk [1,7] Y [(263,.bool ((!((HB (m0 9))))||(decide (m0 3<=m0 9))))] ?_ ?_))))))
                  .refine Gr (Xf Hx Y Y (Xi (m0 9) GF Y Y (xc Y Te Y (fun w1 br=>Ip w1 _ (IM)) (xQ Y (Hh Y) (vm Y (QC 257 Y (fun ye=>?_) fun ye=>?_))))))
                   .exact vs Y (vs Y (vs Y (vs Y (vs Y (vt Y (Gw (qk Y (by simp[bA,cn,cq,cF,cE,fu,ft,hE,qB,yg,yf,ye]) Y)))))))
                   .exact Xf Hx Y Y (Xi (m0 9) GF Y Y (Xf HG Y Y (Xi (m0 3) GF Y Y (xQ Y (Ie Y Y) (vf Y (Gw (qk Y (by simp[bA,cn,cq,cF,cE,fu,ft,hE,qB,yg,yf,ye]) Y)))))))
                  .refine Gt (wb Y h (fun se h=>?_) fun se h=>?_)
                   .refine wS (va Y (nU ?_));subst h
                    exact yA results29 Y [] KP (⟨Y,Y⟩)
                   .refine jW (xQ Y (GA Y Hm (mT mH)) (xQ Y (GA Y Hm mH) (xQ Y (Io Lx Y Y) (va Y (nV ?_)))));subst h
                    exact yA results29 Y [] KP (⟨Y,Y⟩)
                 .refine jW (xQ Y (GA Y Hm (mT mH)) (xQ Y (GA Y Hm mH) (xQ Y (Io Lx Y Y) (va Y (nV ?_)))));subst h
                  exact yA results29 Y [] KP (⟨Y,Y⟩)
              .refine jS (wS (Xf G9 Y Y (Xi (m0 0) GF Y Y (xQ Y (GI Y Y) (nS (wd Y h (fun qz h=>?_) fun qz h=>?_))))))
               .refine wS (Xf Hx Y Y (Xi (m0 9) GF Y Y (Xf Hx Y Y (xZ Y (HS Y Y GF mH U uH) (nY (wk [1,7] Y [(263,.bool ((!((HB (m0 9))))||(decide (m0 3<=m0 9))))] ?_ ?_))))))
                .refine Gr (Xf Hx Y Y (Xi (m0 9) GF Y Y (xc Y Te Y (fun w1 br=>Ip w1 _ (IM)) (xQ Y (Hh Y) (vm Y (QC 257 Y (fun sP=>?_) fun sP=>?_))))))
                 .exact vs Y (vs Y (vs Y (vs Y (vs Y (vt Y (Gw (qk Y (by simp[bA,cn,cq,cF,cE,fu,ft,hE,qB,qz,sP]) Y)))))))
                 .exact Xf Hx Y Y (Xi (m0 9) GF Y Y (Xf HG Y Y (Xi (m0 3) GF Y Y (xQ Y (Ie Y Y) (vf Y (Gw (qk Y (by simp[bA,cn,cq,cF,cE,fu,ft,hE,qB,qz,sP]) Y)))))))
                .refine Gt (wb Y h (fun yd h=>?_) fun yd h=>?_)
                 .refine wS (va Y (nU ?_));subst h
                  exact yA results29 Y [] KP (⟨Y,Y⟩)
                 .refine jW (xQ Y (GA Y Hm (mT mH)) (xQ Y (GA Y Hm mH) (xQ Y (Io Lx Y Y) (va Y (nV ?_)))));subst h
                  exact yA results29 Y [] KP (⟨Y,Y⟩)
               .refine jW (xQ Y (GA Y Hm (mT mH)) (xQ Y (GA Y Hm mH) (xQ Y (Io Lx Y Y) (va Y (nV ?_)))));subst h
                exact yA results29 Y [] KP (⟨Y,Y⟩)
         .refine jS (wS (Xf G9 Y Y (Xi (m0 0) GF Y Y (xQ Y (J1 Y Y) (nS (wd Y h (fun fr h=>?_) fun fr h=>?_))))))
          .refine wS (Xf Ky Y Y (xQ Y (Jx Y I4 (mT mH) U (fun _ _=>Y)) (Xf Ky Y Y (xZ Y (UP Y Y I4 mH U uH) (nR (Xf J4 Y Y (Xi (m0 7) NA Y Y (Xf J4 Y Y (xZ Y (HS Y Y NA mH U uH) ?_)))))))));refine nY (wk [1,7] Y [(213,.bool (((!((Iy (fun i=>m0 (5+i)))))||(decide (m0 7<1)))||(decide (4<m0 7))))] ?_ ?_)
           .refine Gr (Xf Ky Y Y (xQ Y (Jx Y I4 (mT mH) U (fun _ _=>Y)) (xc Y AfC Y (fun w1 br=>Nr w1 _ (Oz)) (xQ Y (Hh Y) (vm Y (QC 204 Y (fun wy=>?_) fun wy=>?_))))))
            .exact VQh bA cn cq cF cE fr wy
            .refine Xf J4 Y Y (Xi (m0 7) NA Y Y (xQ Y (G6 Y Y) (vf Y (vm Y (IY 209 Y (fun yc=>?_) fun yc=>?_)))))
             .exact VQi bA cn cq cF cE fr wy yc
             .exact Xf J4 Y Y (Xi (m0 7) NA Y Y (xQ Y (Hz Y Y) (VQi bA cn cq cF cE fr wy yc)))
           .refine Gt (wb Y h (fun ki h=>?_) fun ki h=>?_)
            .refine wS (va Y (nU ?_));subst h
             exact yA results29 Y [] KP (⟨Y,Y⟩)
            .refine jS (wS (Xf G9 Y Y (Xi (m0 0) GF Y Y (xQ Y (GI Y Y) (nS (wd Y h (fun kh h=>?_) fun kh h=>?_))))))
             .refine wS (Xf Hi Y Y (Xi (m0 8) GF Y Y (Xf Hi Y Y (xZ Y (HS Y Y GF mH U uH) (nY (wk [1,7] Y [(227,.bool ((decide (m0 8<1))||(decide (15<m0 8))))] ?_ ?_))))))
              .refine Gr (Xf Hi Y Y (Xi (m0 8) GF Y Y (xQ Y (G6 Y Y) (vm Y (IY 223 Y (fun ya=>?_) fun ya=>?_)))))
               .exact VQj bA cn cq cF cE fr ki kh ya
               .exact Xf Hi Y Y (Xi (m0 8) GF Y Y (xQ Y (Hz Y Y) (VQj bA cn cq cF cE fr ki kh ya)))
              .refine Gt (wb Y h (fun sd h=>?_) fun sd h=>?_)
               .refine wS (va Y (nU ?_));subst h
                exact yA results29 Y [] KP (⟨Y,Y⟩)
               .refine jS (Gu (wk [1,7] Y [(235,.bool ((decide (m0 0=5))||(decide (m0 0=6))))] ?_ ?_))
                .exact Gr (Xf G9 Y Y (Xi (m0 0) GF Y Y (xQ Y (GI Y Y) (vm Y (QJ 231 Y (v':=.bool false) (congrArg Value.bool (by simp;omega)) (Xf G9 Y Y (Xi (m0 0) GF Y Y (xQ Y (GI Y Y) (VQj bA cn cq cF cE fr ki kh sd)))))))))
                .refine Gt (wb Y h (fun x9 h=>?_) fun x9 h=>?_)
                 .refine wS (Xf Hi Y Y (Xi (m0 8) GF Y Y (Xf Hi Y Y (xZ Y (HS Y Y GF mH U uH) (nY (wk [1,7] Y [(246,.bool ((!(decide (m0 8=0)))&&(!(decide (m0 8=1)))))] ?_ ?_))))))
                  .refine Gr (Xf Hi Y Y (Xi (m0 8) GF Y Y (xQ Y (Hr Y Y) (vm Y (Ub 242 Y (fun x7=>?_) fun x7=>?_)))))
                   .exact Xf Hi Y Y (Xi (m0 8) GF Y Y (xQ Y (Hr Y Y) (vt Y (Gw (qk Y (by simp[bA,cn,cq,cF,cE,fr,ki,kh,sd,x9,x7]) Y)))))
                   .exact vs Y (vs Y (vs Y (vf Y (Gw (qk Y (by simp[bA,cn,cq,cF,cE,fr,ki,kh,sd,x9,x7]) Y)))))
                  .refine Gt (wb Y h (fun Df h=>?_) fun Df h=>?_)
                   .refine wS (va Y (nU ?_));subst h
                    exact yA results29 Y [] KP (⟨Y,Y⟩)
                   .refine jS (wS (Xf G9 Y Y (Xi (m0 0) GF Y Y (xQ Y (GI Y Y) (nS (GW Y (by simp;omega) (jS ?_)))))));refine Gr (xQ Y (GA Y Hm (mT mH)) (xQ Y (GA Y Hm mH) (xQ Y (Io Lx Y Y) (va Y (nV ?_)))));subst h
                    exact yA results29 Y [] KP (⟨Y,Y⟩)
                 .refine jS (wS (Xf G9 Y Y (Xi (m0 0) GF Y Y (xQ Y (GI Y Y) (nS (GW Y (by simp;omega) (jS ?_)))))));refine Gr (xQ Y (GA Y Hm (mT mH)) (xQ Y (GA Y Hm mH) (xQ Y (Io Lx Y Y) (va Y (nV ?_)))));subst h
                  exact yA results29 Y [] KP (⟨Y,Y⟩)
             .refine jS (Gu (wk [1,7] Y [(235,.bool ((decide (m0 0=5))||(decide (m0 0=6))))] ?_ ?_))
              .refine Gr (Xf G9 Y Y (Xi (m0 0) GF Y Y (xQ Y (GI Y Y) (vm Y (IY 231 Y (fun sO=>?_) fun sO=>?_)))))
               .exact VQj bA cn cq cF cE fr ki kh sO
               .exact Xf G9 Y Y (Xi (m0 0) GF Y Y (xQ Y (GI Y Y) (VQj bA cn cq cF cE fr ki kh sO)))
              .refine Gt (wb Y h (fun qy h=>?_) fun qy h=>?_)
               .refine wS (Xf Hi Y Y (Xi (m0 8) GF Y Y (Xf Hi Y Y (xZ Y (HS Y Y GF mH U uH) (nY (wk [1,7] Y [(246,.bool ((!(decide (m0 8=0)))&&(!(decide (m0 8=1)))))] ?_ ?_))))))
                .refine Gr (Xf Hi Y Y (Xi (m0 8) GF Y Y (xQ Y (Hr Y Y) (vm Y (Ub 242 Y (fun x6=>?_) fun x6=>?_)))))
                 .exact Xf Hi Y Y (Xi (m0 8) GF Y Y (xQ Y (Hr Y Y) (VQk bA cn cq cF cE fr ki kh qy x6)))
                 .exact VQk bA cn cq cF cE fr ki kh qy x6
                .refine Gt (wb Y h (fun x5 h=>?_) fun x5 h=>?_)
                 .refine wS (va Y (nU ?_));subst h
                  exact yA results29 Y [] KP (⟨Y,Y⟩)
                 .refine jS (wS (Xf G9 Y Y (Xi (m0 0) GF Y Y (xQ Y (GI Y Y) (nS (wd Y h (fun x3 h=>?_) fun x3 h=>?_))))))
                  .refine wS (Xf Hx Y Y (Xi (m0 9) GF Y Y (Xf Hx Y Y (xZ Y (HS Y Y GF mH U uH) (nY (wk [1,7] Y [(263,.bool ((!((HB (m0 9))))||(decide (m0 3<=m0 9))))] ?_ ?_))))))
                   .refine Gr (Xf Hx Y Y (Xi (m0 9) GF Y Y (xc Y Te Y (fun w1 br=>Ip w1 _ (IM)) (xQ Y (Hh Y) (vm Y (QC 257 Y (fun sN=>?_) fun sN=>?_))))))
                    .exact vs Y (vs Y (vs Y (vs Y (vs Y (vt Y (Gw (qk Y (by simp[bA,cn,cq,cF,cE,fr,ki,kh,qy,x5,x3,sN]) Y)))))))
                    .exact Xf Hx Y Y (Xi (m0 9) GF Y Y (Xf HG Y Y (Xi (m0 3) GF Y Y (xQ Y (Ie Y Y) (vf Y (Gw (qk Y (by simp[bA,cn,cq,cF,cE,fr,ki,kh,qy,x5,x3,sN]) Y)))))))
                   .refine Gt (wb Y h (fun De h=>?_) fun De h=>?_)
                    .refine wS (va Y (nU ?_));subst h
                     exact yA results29 Y [] KP (⟨Y,Y⟩)
                    .refine jW (xQ Y (GA Y Hm (mT mH)) (xQ Y (GA Y Hm mH) (xQ Y (Io Lx Y Y) (va Y (nV ?_)))));subst h
                     exact yA results29 Y [] KP (⟨Y,Y⟩)
                  .refine jW (xQ Y (GA Y Hm (mT mH)) (xQ Y (GA Y Hm mH) (xQ Y (Io Lx Y Y) (va Y (nV ?_)))));subst h
                   exact yA results29 Y [] KP (⟨Y,Y⟩)
               .refine jS (wS (Xf G9 Y Y (Xi (m0 0) GF Y Y (xQ Y (GI Y Y) (nS (wd Y h (fun tg h=>?_) fun tg h=>?_))))))
                .refine wS (Xf Hx Y Y (Xi (m0 9) GF Y Y (Xf Hx Y Y (xZ Y (HS Y Y GF mH U uH) (nY (wk [1,7] Y [(263,.bool ((!((HB (m0 9))))||(decide (m0 3<=m0 9))))] ?_ ?_))))))
                 .refine Gr (Xf Hx Y Y (Xi (m0 9) GF Y Y (xc Y Te Y (fun w1 br=>Ip w1 _ (IM)) (xQ Y (Hh Y) (vm Y (QC 257 Y (fun tf=>?_) fun tf=>?_))))))
                  .exact vs Y (vs Y (vs Y (vs Y (vs Y (vt Y (Gw (qk Y (by simp[bA,cn,cq,cF,cE,fr,ki,kh,qy,tg,tf]) Y)))))))
                  .exact Xf Hx Y Y (Xi (m0 9) GF Y Y (Xf HG Y Y (Xi (m0 3) GF Y Y (xQ Y (Ie Y Y) (vf Y (Gw (qk Y (by simp[bA,cn,cq,cF,cE,fr,ki,kh,qy,tg,tf]) Y)))))))
                 .refine Gt (wb Y h (fun z7 h=>?_) fun z7 h=>?_)
                  .refine wS (va Y (nU ?_));subst h
                   exact yA results29 Y [] KP (⟨Y,Y⟩)
                  .refine jW (xQ Y (GA Y Hm (mT mH)) (xQ Y (GA Y Hm mH) (xQ Y (Io Lx Y Y) (va Y (nV ?_)))));subst h
                   exact yA results29 Y [] KP (⟨Y,Y⟩)
                .refine jW (xQ Y (GA Y Hm (mT mH)) (xQ Y (GA Y Hm mH) (xQ Y (Io Lx Y Y) (va Y (nV ?_)))));subst h
                 exact yA results29 Y [] KP (⟨Y,Y⟩)
          .refine jS (wS (Xf G9 Y Y (Xi (m0 0) GF Y Y (xQ Y (GI Y Y) (nS (wd Y h (fun gT h=>?_) fun gT h=>?_))))))
           .refine wS (Xf Hi Y Y (Xi (m0 8) GF Y Y (Xf Hi Y Y (xZ Y (HS Y Y GF mH U uH) (nY (wk [1,7] Y [(227,.bool ((decide (m0 8<1))||(decide (15<m0 8))))] ?_ ?_))))))
            .refine Gr (Xf Hi Y Y (Xi (m0 8) GF Y Y (xQ Y (G6 Y Y) (vm Y (IY 223 Y (fun te=>?_) fun te=>?_)))))
             .exact VQi bA cn cq cF cE fr gT te
             .exact Xf Hi Y Y (Xi (m0 8) GF Y Y (xQ Y (Hz Y Y) (VQi bA cn cq cF cE fr gT te)))
            .refine Gt (wb Y h (fun rA h=>?_) fun rA h=>?_)
             .refine wS (va Y (nU ?_));subst h
              exact yA results29 Y [] KP (⟨Y,Y⟩)
             .refine jS (Gu (wk [1,7] Y [(235,.bool ((decide (m0 0=5))||(decide (m0 0=6))))] ?_ ?_))
              .exact Gr (Xf G9 Y Y (Xi (m0 0) GF Y Y (xQ Y (GI Y Y) (vm Y (QJ 231 Y (v':=.bool false) (congrArg Value.bool (by simp;omega)) (Xf G9 Y Y (Xi (m0 0) GF Y Y (xQ Y (GI Y Y) (VQi bA cn cq cF cE fr gT rA)))))))))
              .refine Gt (wb Y h (fun td h=>?_) fun td h=>?_)
               .refine wS (Xf Hi Y Y (Xi (m0 8) GF Y Y (Xf Hi Y Y (xZ Y (HS Y Y GF mH U uH) (nY (wk [1,7] Y [(246,.bool ((!(decide (m0 8=0)))&&(!(decide (m0 8=1)))))] ?_ ?_))))))
                .refine Gr (Xf Hi Y Y (Xi (m0 8) GF Y Y (xQ Y (Hr Y Y) (vm Y (Ub 242 Y (fun tc=>?_) fun tc=>?_)))))
                 .exact Xf Hi Y Y (Xi (m0 8) GF Y Y (xQ Y (Hr Y Y) (VQk bA cn cq cF cE fr gT rA td tc)))
                 .exact VQk bA cn cq cF cE fr gT rA td tc
                .refine Gt (wb Y h (fun z6 h=>?_) fun z6 h=>?_)
                 .refine wS (va Y (nU ?_));subst h
                  exact yA results29 Y [] KP (⟨Y,Y⟩)
                 .refine jS (wS (Xf G9 Y Y (Xi (m0 0) GF Y Y (xQ Y (GI Y Y) (nS (GW Y (by simp;omega) (jS ?_)))))));refine Gr (xQ Y (GA Y Hm (mT mH)) (xQ Y (GA Y Hm mH) (xQ Y (Io Lx Y Y) (va Y (nV ?_)))));subst h
                  exact yA results29 Y [] KP (⟨Y,Y⟩)
               .refine jS (wS (Xf G9 Y Y (Xi (m0 0) GF Y Y (xQ Y (GI Y Y) (nS (GW Y (by simp;omega) (jS ?_)))))));refine Gr (xQ Y (GA Y Hm (mT mH)) (xQ Y (GA Y Hm mH) (xQ Y (Io Lx Y Y) (va Y (nV ?_)))));subst h
                exact yA results29 Y [] KP (⟨Y,Y⟩)
           .refine jS (Gu (wk [1,7] Y [(235,.bool ((decide (m0 0=5))||(decide (m0 0=6))))] ?_ ?_))
            .refine Gr (Xf G9 Y Y (Xi (m0 0) GF Y Y (xQ Y (GI Y Y) (vm Y (IY 231 Y (fun ta=>?_) fun ta=>?_)))))
             .exact VQi bA cn cq cF cE fr gT ta
             .exact Xf G9 Y Y (Xi (m0 0) GF Y Y (xQ Y (GI Y Y) (VQi bA cn cq cF cE fr gT ta)))
            .refine Gt (wb Y h (fun lN h=>?_) fun lN h=>?_)
             .refine wS (Xf Hi Y Y (Xi (m0 8) GF Y Y (Xf Hi Y Y (xZ Y (HS Y Y GF mH U uH) (nY (wk [1,7] Y [(246,.bool ((!(decide (m0 8=0)))&&(!(decide (m0 8=1)))))] ?_ ?_))))))
              .refine Gr (Xf Hi Y Y (Xi (m0 8) GF Y Y (xQ Y (Hr Y Y) (vm Y (Ub 242 Y (fun s8=>?_) fun s8=>?_)))))
               .exact Xf Hi Y Y (Xi (m0 8) GF Y Y (xQ Y (Hr Y Y) (VQj bA cn cq cF cE fr gT lN s8)))
               .exact VQj bA cn cq cF cE fr gT lN s8
              .refine Gt (wb Y h (fun s7 h=>?_) fun s7 h=>?_)
               .refine wS (va Y (nU ?_));subst h
                exact yA results29 Y [] KP (⟨Y,Y⟩)
               .refine jS (wS (Xf G9 Y Y (Xi (m0 0) GF Y Y (xQ Y (GI Y Y) (nS (wd Y h (fun s6 h=>?_) fun s6 h=>?_))))))
                .refine wS (Xf Hx Y Y (Xi (m0 9) GF Y Y (Xf Hx Y Y (xZ Y (HS Y Y GF mH U uH) (nY (wk [1,7] Y [(263,.bool ((!((HB (m0 9))))||(decide (m0 3<=m0 9))))] ?_ ?_))))))
                 .refine Gr (Xf Hx Y Y (Xi (m0 9) GF Y Y (xc Y Te Y (fun w1 br=>Ip w1 _ (IM)) (xQ Y (Hh Y) (vm Y (QC 257 Y (fun sZ=>?_) fun sZ=>?_))))))
                  .exact vs Y (vs Y (vs Y (vs Y (vs Y (vt Y (Gw (qk Y (by simp[bA,cn,cq,cF,cE,fr,gT,lN,s7,s6,sZ]) Y)))))))
                  .exact Xf Hx Y Y (Xi (m0 9) GF Y Y (Xf HG Y Y (Xi (m0 3) GF Y Y (xQ Y (Ie Y Y) (vf Y (Gw (qk Y (by simp[bA,cn,cq,cF,cE,fr,gT,lN,s7,s6,sZ]) Y)))))))
                 .refine Gt (wb Y h (fun zZ h=>?_) fun zZ h=>?_)
                  .refine wS (va Y (nU ?_));subst h
                   exact yA results29 Y [] KP (⟨Y,Y⟩)
                  .refine jW (xQ Y (GA Y Hm (mT mH)) (xQ Y (GA Y Hm mH) (xQ Y (Io Lx Y Y) (va Y (nV ?_)))));subst h
                   exact yA results29 Y [] KP (⟨Y,Y⟩)
                .refine jW (xQ Y (GA Y Hm (mT mH)) (xQ Y (GA Y Hm mH) (xQ Y (Io Lx Y Y) (va Y (nV ?_)))));subst h
                 exact yA results29 Y [] KP (⟨Y,Y⟩)
             .refine jS (wS (Xf G9 Y Y (Xi (m0 0) GF Y Y (xQ Y (GI Y Y) (nS (wd Y h (fun sY h=>?_) fun sY h=>?_))))))
              .refine wS (Xf Hx Y Y (Xi (m0 9) GF Y Y (Xf Hx Y Y (xZ Y (HS Y Y GF mH U uH) (nY (wk [1,7] Y [(263,.bool ((!((HB (m0 9))))||(decide (m0 3<=m0 9))))] ?_ ?_))))))
               .refine Gr (Xf Hx Y Y (Xi (m0 9) GF Y Y (xc Y Te Y (fun w1 br=>Ip w1 _ (IM)) (xQ Y (Hh Y) (vm Y (QC 257 Y (fun sW=>?_) fun sW=>?_))))))
                .exact VQk bA cn cq cF cE fr gT lN sY sW
                .exact Xf Hx Y Y (Xi (m0 9) GF Y Y (Xf HG Y Y (Xi (m0 3) GF Y Y (xQ Y (Ie Y Y) (VQk bA cn cq cF cE fr gT lN sY sW)))))
               .refine Gt (wb Y h (fun zY h=>?_) fun zY h=>?_)
                .refine wS (va Y (nU ?_));subst h
                 exact yA results29 Y [] KP (⟨Y,Y⟩)
                .refine jW (xQ Y (GA Y Hm (mT mH)) (xQ Y (GA Y Hm mH) (xQ Y (Io Lx Y Y) (va Y (nV ?_)))));subst h
                 exact yA results29 Y [] KP (⟨Y,Y⟩)
              .refine jW (xQ Y (GA Y Hm (mT mH)) (xQ Y (GA Y Hm mH) (xQ Y (Io Lx Y Y) (va Y (nV ?_)))));subst h
               exact yA results29 Y [] KP (⟨Y,Y⟩)
end Go.Proofs.YtljklmlodfbdnaaGreat
namespace Go.Proofs.YtljklmlodfbdnaaGreat
open Go Go.E Go.Proofs.Tryz
theorem Aah {a0 b1 v0 v1} (w) (dK:SL w 7 iv v0 a0) (ju:SL w 7 iv v1 b1) (r) (h:R6 a0 b1 r):Con prog 30 #[v0,v1] w (Is (.bool r) []):=by
  unfold R6 at h
  refine ce func30 Y ntmps30 Y (wS (va Y (nY (wS (vm Y (xQ Y (Hs Y underlying54 Y (SL.val dK)) (vm Y (xQ Y (Hs Y underlying54 Y (SL.val ju)) (xQ Y (Hr Y Y) ?_)))))))))
  refine nS (wn Y h (fun bB h=>?_) fun bB h=>?_)
  . refine wS (va Y (nU ?_))
    subst h
    exact rO results30 Y (⟨Y,Y⟩)
  . refine jS (wS (va Y (nS (Gz ?_))))
    obtain⟨x1,fq,h⟩:=h
    refine xL (fun(i5:Int) e H=>e=[(0,v0),(1,v1),(5,iI i5)]/\H=[]) (fun x ex e H=>match x with | .inl _=>ex = .exit 0/\e=[]/\H=[] | .inr _=>ex = .ret/\e=[(4,.bool false)]/\H=[]) fq ⟨Y,Y⟩ ?_ ?_
    . rintro i5 o _ _ ⟨rfl,rfl⟩ hb
      have h:Lw a0 b1 i5 o:=hb
      clear hb
      unfold Lw at h
      refine Gu (wS (vm Y (vm Y (xQ Y (Hs Y underlying54 Y (SL.val dK)) (xQ Y (G6 Y Y) (nS (wd Y h (fun bA h=>?_) fun bA h=>?_)))))))
      . refine jS (Gz (Gu (GK Z Z (fun hok=>?_))))
        refine Bm hok 0 Y Z Y (Bm hok 1 Y Z Y ?_)
        obtain⟨fX,h⟩:=h
        refine xb hok 2 [17,18] Y Z (fun _ hK=>Hy M8 Y Y (fun w hw=>(dK.keep hw (fun k hk=>(hK k hk).elim (fun h=>Fr.nil k h) id))) Y fX) (xb hok 3 [19] Y Z (fun _ hK=>ND Y NR Y (fun w hw=>(dK.keep hw (fun k hk=>(hK k hk).elim (fun h=>Fr.nil k h) id))) (GG fX) Y) (Bm hok 4 Y Z Y (Bm hok 5 Y Z Y ?_)))
        obtain⟨el,h⟩:=h
        refine xb hok 6 [21,22] Y Z (fun _ hK=>Hy M8 Y Y (fun w hw=>(ju.keep hw (fun k hk=>(hK k hk).elim (fun h=>Fr.nil k h) id))) Y el) (xb hok 7 [23] Y Z (fun _ hK=>ND Y NR Y (fun w hw=>(ju.keep hw (fun k hk=>(hK k hk).elim (fun h=>Fr.nil k h) id))) (GG el) Y) (xb hok 8 [20,24] Y Z (fun _ hK=>PC AjT Y Y) (GM hok Z (Gt (wc Y h (fun dU h=>?_) fun dU h=>?_)))))
        . exact wS (va Y (nV (GB (Gx (xO h ⟨Y,Y,Y⟩)))))
        . refine GY (GZ 1 (Gt (Gr (vm Y ?_))))
          obtain⟨eX,h⟩:=h
          exact xQ Y (Hk Y Y Y eX) (va Y (Gw (xN h ⟨Y,Y⟩)))
      . exact GJ (Gs (xO h ⟨Y,Y,Y⟩))
    . rcases x1 with _ | x1
      . rintro _ _ _ ⟨rfl,rfl,rfl⟩
        replace h:Rd r:=h
        unfold Rd at h
        refine GD (qW (va Y (nV ?_)))
        subst h
        exact rO results30 Y (⟨Y,Y⟩)
      cases x1
      rintro _ _ _ ⟨rfl,rfl,rfl⟩
      replace h:Rc r:=h
      unfold Rc at h
      refine GB (Gx ?_)
      subst h
      exact rO results30 Y (⟨Y,Y⟩)
end Go.Proofs.YtljklmlodfbdnaaGreat
namespace Go.Proofs.YtljklmlodfbdnaaGreat
open Go Go.E Go.Proofs.Tryz
theorem Vh {a0 b1 v0 v1} (w) (dK:SL w 1 ic v0 a0) (ju:SL w 1 ic v1 b1) (r) (h:Xt a0 b1 r):Con prog 88 #[v0,v1] w (Is (.bool r) []):=by
 unfold Xt at h;refine ce func88 Y ntmps88 Y (wS (va Y (nY (wS (vm Y (xQ Y (Hs Y underlying59 Y (SL.val dK)) (vm Y (xQ Y (Hs Y underlying59 Y (SL.val ju)) (xQ Y (Hr Y Y) ?_)))))))));refine nS (wn Y h (fun bB h=>?_) fun bB h=>?_)
 .refine wS (va Y (nU ?_));subst h
  exact rO results88 Y (⟨Y,Y⟩)
 .refine jS (wS (va Y (nS (Gz ?_))));obtain⟨x1,fq,h⟩:=h;refine xL (fun(i5:Int) e H=>e=[(0,v0),(1,v1),(5,iI i5)]/\H=[]) (fun x ex e H=>match x with | .inl _=>ex=.exit 0/\e=[]/\H=[] | .inr _=>ex=.ret/\e=[(4,.bool false)]/\H=[]) fq ⟨Y,Y⟩ ?_ ?_
  .rintro i5 o _ _ ⟨rfl,rfl⟩ hb;have h:OQ a0 b1 i5 o:=hb
   clear hb;unfold OQ at h;refine Gu (wS (vm Y (vm Y (xQ Y (Hs Y underlying59 Y (SL.val dK)) (xQ Y (G6 Y Y) (nS (wd Y h (fun bA h=>?_) fun bA h=>?_)))))))
   .refine jS (Gz (Gu (GK Z Z (fun hok=>?_))));refine Bm hok 0 Y Z Y (Bm hok 1 Y Z Y ?_);obtain⟨fX,h⟩:=h;refine xb hok 2 [17,18] Y Z (fun _ hK=>Hy HY Y Y (fun w hw=>(dK.keep hw (fun k hk=>(hK k hk).elim (fun h=>Fr.nil k h) id))) Y fX) (xb hok 3 [19] Y Z (fun _ hK=>HN (off:=0) (u:=iI (a0[i5.toNat]!)) Y GF Y (fun w hw=>(dK.keep hw (fun k hk=>(hK k hk).elim (fun h=>Fr.nil k h) id))) (GG fX) Y Y) (Bm hok 4 Y Z Y (Bm hok 5 Y Z Y ?_)));obtain⟨el,h⟩:=h;refine xb hok 6 [21,22] Y Z (fun _ hK=>Hy HY Y Y (fun w hw=>(ju.keep hw (fun k hk=>(hK k hk).elim (fun h=>Fr.nil k h) id))) Y el) (xb hok 7 [23] Y Z (fun _ hK=>HN (off:=0) (u:=iI (b1[i5.toNat]!)) Y GF Y (fun w hw=>(ju.keep hw (fun k hk=>(hK k hk).elim (fun h=>Fr.nil k h) id))) (GG el) Y Y) (xb hok 8 [20,24] Y Z (fun _ hK=>Hr Y Y) (GM hok Z (Gt (wn Y h (fun dU h=>?_) fun dU h=>?_)))))
    .exact wS (va Y (nV (GB (Gx (xO h ⟨Y,Y,Y⟩)))))
    .refine GY (GZ 1 (Gt (Gr (vm Y ?_))));obtain⟨eX,h⟩:=h;exact xQ Y (Hk Y Y Y eX) (va Y (Gw (xN h ⟨Y,Y⟩)))
   .exact GJ (Gs (xO h ⟨Y,Y,Y⟩))
  .rcases x1 with _ | x1
   .rintro _ _ _ ⟨rfl,rfl,rfl⟩;replace h:Vg r:=h;unfold Vg at h;refine GD (qW (va Y (nV ?_)));subst h
    exact rO results88 Y (⟨Y,Y⟩)
   cases x1
   rintro _ _ _ ⟨rfl,rfl,rfl⟩;replace h:Vf r:=h;unfold Vf at h;refine GB (Gx ?_);subst h
   exact rO results88 Y (⟨Y,Y⟩)
theorem Z6 {a0 b1 v0 v1} (w) (dK:SL w 5 iv v0 a0) (ju:SL w 5 iv v1 b1) (r) (h:R2 a0 b1 r):Con prog 89 #[v0,v1] w (Is (.bool r) []):=by
 unfold R2 at h;refine ce func89 Y ntmps89 Y (wS (va Y (nY (wS (vm Y (xQ Y (Hs Y underlying60 Y (SL.val dK)) (vm Y (xQ Y (Hs Y underlying60 Y (SL.val ju)) (xQ Y (Hr Y Y) ?_)))))))));refine nS (wn Y h (fun bB h=>?_) fun bB h=>?_)
 .refine wS (va Y (nU ?_));subst h
  exact rO results89 Y (⟨Y,Y⟩)
 .refine jS (wS (va Y (nS (Gz ?_))));obtain⟨x1,fq,h⟩:=h;refine xL (fun(i5:Int) e H=>e=[(0,v0),(1,v1),(5,iI i5)]/\H=[]) (fun x ex e H=>match x with | .inl _=>ex=.exit 0/\e=[]/\H=[] | .inr _=>ex=.ret/\e=[(4,.bool false)]/\H=[]) fq ⟨Y,Y⟩ ?_ ?_
  .rintro i5 o _ _ ⟨rfl,rfl⟩ hb;have h:Lq a0 b1 i5 o:=hb
   clear hb;unfold Lq at h;refine Gu (wS (vm Y (vm Y (xQ Y (Hs Y underlying60 Y (SL.val dK)) (xQ Y (G6 Y Y) (nS (wd Y h (fun bA h=>?_) fun bA h=>?_)))))))
   .refine jS (Gz (Gu (GK Z Z (fun hok=>?_))));refine Bm hok 0 Y Z Y (Bm hok 1 Y Z Y ?_);obtain⟨fX,h⟩:=h;refine xb hok 2 [17,18] Y Z (fun _ hK=>Hy XG Y Y (fun w hw=>(dK.keep hw (fun k hk=>(hK k hk).elim (fun h=>Fr.nil k h) id))) Y fX) (xb hok 3 [19] Y Z (fun _ hK=>ND Y Af6 Y (fun w hw=>(dK.keep hw (fun k hk=>(hK k hk).elim (fun h=>Fr.nil k h) id))) (GG fX) Y) (Bm hok 4 Y Z Y (Bm hok 5 Y Z Y ?_)));obtain⟨el,h⟩:=h;refine xb hok 6 [21,22] Y Z (fun _ hK=>Hy XG Y Y (fun w hw=>(ju.keep hw (fun k hk=>(hK k hk).elim (fun h=>Fr.nil k h) id))) Y el) (xb hok 7 [23] Y Z (fun _ hK=>ND Y Af6 Y (fun w hw=>(ju.keep hw (fun k hk=>(hK k hk).elim (fun h=>Fr.nil k h) id))) (GG el) Y) (xb hok 8 [20,24] Y Z (fun _ hK=>PC AiK Y Y) (GM hok Z (Gt (wc Y h (fun dU h=>?_) fun dU h=>?_)))))
    .exact wS (va Y (nV (GB (Gx (xO h ⟨Y,Y,Y⟩)))))
    .refine GY (GZ 1 (Gt (Gr (vm Y ?_))));obtain⟨eX,h⟩:=h;exact xQ Y (Hk Y Y Y eX) (va Y (Gw (xN h ⟨Y,Y⟩)))
   .exact GJ (Gs (xO h ⟨Y,Y,Y⟩))
  .rcases x1 with _ | x1
   .rintro _ _ _ ⟨rfl,rfl,rfl⟩;replace h:Q4 r:=h;unfold Q4 at h;refine GD (qW (va Y (nV ?_)));subst h
    exact rO results89 Y (⟨Y,Y⟩)
   cases x1
   rintro _ _ _ ⟨rfl,rfl,rfl⟩;replace h:Q3 r:=h;unfold Q3 at h;refine GB (Gx ?_);subst h
   exact rO results89 Y (⟨Y,Y⟩)
theorem RZ {l0 n1 v0} (w) (dK:SL w 1 ic v0 l0) (r) (h:Xu l0 n1 r):Con prog 129 #[v0,iI n1] w (Is (.bool r) []):=by
 unfold Xu at h;refine ce func129 Y ntmps129 Y (wS (va Y (nY (wS (va Y (nS (Gz ?_)))))));obtain⟨x1,fq,h⟩:=h;refine xL (fun(i5:Int) e H=>e=[(0,v0),(1,iI n1),(5,iI i5)]/\H=[]) (fun x ex e H=>match x with | .inl _=>ex=.exit 0/\e=[]/\H=[] | .inr _=>ex=.ret/\e=[(4,.bool true)]/\H=[]) fq ⟨Y,Y⟩ ?_ ?_
 .rintro i5 o _ _ ⟨rfl,rfl⟩ hb;have h:OR l0 n1 i5 o:=hb
  clear hb;unfold OR at h;refine Gu (wS (vm Y (vm Y (xQ Y (Hs Y underlying59 Y (SL.val dK)) (xQ Y (G6 Y Y) (nS (wd Y h (fun bB h=>?_) fun bB h=>?_)))))))
  .refine jS (Gz (wS (vm Y (vm Y ?_))));obtain⟨d3,h⟩:=h;refine xQ Y (Hy HY Y Y (fun w hw=>(dK.keep hw Fr.nil)) Y d3) (xQ Y (HN (off:=0) (u:=iI (l0[i5.toNat]!)) Y GF Y (fun w hw=>(dK.keep hw Fr.nil)) (GG d3) Y Y) (vm Y (xQ Y (GI Y Y) (nS (wd Y h (fun cx h=>?_) fun cx h=>?_)))))
   .exact wS (va Y (nV (GB (Gx (xO h ⟨Y,Y,Y⟩)))))
   .refine GY (GZ 1 (Gt (Gr (vm Y ?_))));obtain⟨el,h⟩:=h;exact xQ Y (Hk Y Y Y el) (va Y (Gw (xN h ⟨Y,Y⟩)))
  .exact GJ (Gs (xO h ⟨Y,Y,Y⟩))
 .rcases x1 with _ | x1
  .rintro _ _ _ ⟨rfl,rfl,rfl⟩;replace h:Vj r:=h;unfold Vj at h;refine GD (qW (va Y (nV ?_)));subst h
   exact rO results129 Y (⟨Y,Y⟩)
  cases x1
  rintro _ _ _ ⟨rfl,rfl,rfl⟩;replace h:Vi r:=h;unfold Vi at h;refine GB (Gx ?_);subst h
  exact rO results129 Y (⟨Y,Y⟩)
theorem TF {l0 v0} (w) (dK:SL w 1 ic v0 l0) (r) (h:Qd l0 r):Con prog 130 #[v0] w (fun v F=>∃ (u0:Value) (C0:GH),v=u0/\F=(C0++[])/\OJ 3 1 ic C0 u0 r/\Cov w [] C0):=by
 unfold Qd at h;refine ce func130 Y ntmps130 Y (wS (va Y (nR (va Y (nY (wS ?_))))));refine va Y (nS (Gz ?_));obtain⟨bH,fq,h⟩:=h;refine xL (fun s e H=>match s with | (bH,i4)=>∃ fA cJ,e=[(0,v0),(3,fA),(4,iI i4)]/\H=cJ++([])/\OJ 3 1 ic cJ fA bH/\Cov w [] cJ) (fun(bH:(List Int)) ex e H=>∃ eV cW,ex=.exit 0/\e=[(3,eV)]/\H=cW++([])/\OJ 3 1 ic cW eV bH/\Cov w [] cW) fq ⟨_,[],Y,Y,OJ.nil,KV⟩ ?_ ?_
 .rintro⟨bH,i4⟩ o _ _ ⟨fA,cJ,rfl,rfl,za,dA⟩ hb;have h:Lp l0 bH i4 o:=hb
  clear hb;unfold Lp at h;refine Gu (wS (vm Y (vm Y (xQ Y (Hs Y underlying59 Y (SL.val dK)) (xQ Y (G6 Y Y) (nS (wd Y h (fun bB h=>?_) fun bB h=>?_)))))))
  .refine jS (Gz (wS (va Y (nY (Gz ?_)))));obtain⟨fS,kA,h⟩:=h;refine xL (fun(fS:Int) e H=>e=[(0,v0),(3,fA),(4,iI i4),(5,iI fS)]/\H=cJ++([])) (fun(fS:Int) ex e H=>ex=.exit 2/\e=[(0,v0),(3,fA),(4,iI i4),(5,iI fS)]/\H=cJ++([])) kA ⟨Y,Y⟩ ?_ ?_
   .rintro fS o _ _ ⟨rfl,rfl⟩ hb;have h:Lo l0 bH i4 fS o:=hb
    clear hb;unfold Lo at h;refine Gu (Gu ?_);obtain⟨d3,fX,h⟩:=h;refine wk [0,3,4,5] Y [(26,.bool ((decide (fS<(bH.length:Int)))&&(decide (bH[fS.toNat]! < l0[i4.toNat]!))))] ?_ ?_
    .refine GK Z Z (fun hok=>?_);refine Bm hok 0 Y Z Y (Bm hok 1 Y Z Y (xb hok 2 [13] Y Z (fun _ hK=>Hs Y underlying59 Y (OJ.val za)) (xb hok 3 [12,14] Y Z (fun _ hK=>G6 Y Y) (Bm hok 4 Y Z Y (dd' 16 Y (fun cb=>?_) fun cb=>?_)))))
     .exact Bm hok 5 Y Z Y (Bm hok 6 Y Z Y (NN hok 7 [17,18,16] (cJ++([])) (Md SG Nd) Y Z (fun _ hy hK=>Hy HY Y Y (fun w hw=>(za.sl hw (SH hy))) Y (d3 (Qxb (dT cb) cb))) (NN hok 8 [19,16] (cJ++([])) (Md SG Nd) Y Z (fun _ hy hK=>HN (off:=0) (u:=iI (bH[fS.toNat]!)) Y GF Y (fun w hw=>(za.sl hw (SH hy))) (GG (d3 (Qxb (dT cb) cb))) Y Y) (Bm hok 9 Y Z Y (Bm hok 10 Y Z Y (xb hok 11 [21,22,16] Y Z (fun _ hK=>Hy HY Y Y (fun w hw=>(dK.keep hw (fun k hk=>(hK k hk).elim (fun h=>(Fr.seg dA Fr.nil) k h) id))) Y (fX (Qxb (dT cb) cb))) (xb hok 12 [23,16] Y Z (fun _ hK=>HN (off:=0) (u:=iI (l0[i4.toNat]!)) Y GF Y (fun w hw=>(dK.keep hw (fun k hk=>(hK k hk).elim (fun h=>(Fr.seg dA Fr.nil) k h) id))) (GG (fX (Qxb (dT cb) cb))) Y Y) (xb hok 13 [20,24,16] Y Z (fun _ hK=>G6 Y Y) (xb hok 14 [16,25] Y Z (fun _ hK=>HW Y Y) (GM hok Z (qk Y (by simp[cb]) Y)))))))))))
     .exact Bs hok 5 Y Z (Bs hok 6 Y Z (Bs hok 7 Y Z (Bs hok 8 Y Z (Bs hok 9 Y Z (Bs hok 10 Y Z (Bs hok 11 Y Z (Bs hok 12 Y Z (Bs hok 13 Y Z (xb hok 14 [16,25] Y Z (fun _ hK=>H4 Y Y) (GM hok Z (qk Y (by simp[cb]) Y)))))))))))
    .refine Gt (wb Y h (fun dU h=>?_) fun dU h=>?_)
     .refine jT (Gz (Gr (vm Y ?_)));obtain⟨eX,h⟩:=h;exact xQ Y (Hk Y Y Y eX) (va Y (Gw (GZ 3 (xN h ⟨Y,Y⟩))))
     .exact GJ (Gs (xO h ⟨Y,Y,Y⟩))
   .rintro _ _ _ ⟨rfl,rfl,rfl⟩;replace h:Nq l0 bH i4 fS o:=h;unfold Nq at h;refine GD (Gt (Gu (Gu ?_)));obtain⟨kD,nP,h⟩:=h;refine wk [0,3,4,5] Y [(43,.bool ((decide (fS<(bH.length:Int)))&&(decide (bH[fS.toNat]! = l0[i4.toNat]!))))] ?_ ?_
    .refine GK Z Z (fun hok=>?_);refine Bm hok 0 Y Z Y (Bm hok 1 Y Z Y (xb hok 2 [30] Y Z (fun _ hK=>Hs Y underlying59 Y (OJ.val za)) (xb hok 3 [29,31] Y Z (fun _ hK=>G6 Y Y) (Bm hok 4 Y Z Y (dd' 33 Y (fun cQ=>?_) fun cQ=>?_)))))
     .exact Bm hok 5 Y Z Y (Bm hok 6 Y Z Y (NN hok 7 [34,35,33] (cJ++([])) (Md SG Nd) Y Z (fun _ hy hK=>Hy HY Y Y (fun w hw=>(za.sl hw (SH hy))) Y (kD (Qxb (dT cQ) cQ))) (NN hok 8 [36,33] (cJ++([])) (Md SG Nd) Y Z (fun _ hy hK=>HN (off:=0) (u:=iI (bH[fS.toNat]!)) Y GF Y (fun w hw=>(za.sl hw (SH hy))) (GG (kD (Qxb (dT cQ) cQ))) Y Y) (Bm hok 9 Y Z Y (Bm hok 10 Y Z Y (xb hok 11 [38,39,33] Y Z (fun _ hK=>Hy HY Y Y (fun w hw=>(dK.keep hw (fun k hk=>(hK k hk).elim (fun h=>(Fr.seg dA Fr.nil) k h) id))) Y (nP (Qxb (dT cQ) cQ))) (xb hok 12 [40,33] Y Z (fun _ hK=>HN (off:=0) (u:=iI (l0[i4.toNat]!)) Y GF Y (fun w hw=>(dK.keep hw (fun k hk=>(hK k hk).elim (fun h=>(Fr.seg dA Fr.nil) k h) id))) (GG (nP (Qxb (dT cQ) cQ))) Y Y) (xb hok 13 [37,41,33] Y Z (fun _ hK=>GI Y Y) (xb hok 14 [33,42] Y Z (fun _ hK=>HW Y Y) (GM hok Z (qk Y (by simp[cQ]) Y)))))))))))
     .exact Bs hok 5 Y Z (Bs hok 6 Y Z (Bs hok 7 Y Z (Bs hok 8 Y Z (Bs hok 9 Y Z (Bs hok 10 Y Z (Bs hok 11 Y Z (Bs hok 12 Y Z (Bs hok 13 Y Z (xb hok 14 [33,42] Y Z (fun _ hK=>H4 Y Y) (GM hok Z (qk Y (by simp[cQ]) Y)))))))))))
    .refine Gt (wb Y h (fun cg h=>?_) fun cg h=>?_)
     .refine GJ (Gs (GD (Gt (Gr (vm Y ?_)))));obtain⟨dy,h⟩:=h;exact xQ Y (Hk Y Y Y dy) (va Y (Gw (xN h ⟨fA,cJ,Y,Y,za,dA⟩)))
     .refine jT ?_;have hk:=h.2
      replace h:=h.1;refine WF (fun e H=>∃ wx vi,e=[(0,v0),(3,wx),(4,iI i4)]/\H=vi++([])/\Cov w [] vi/\OJ 3 1 ic vi wx ((([]++(bH.take fS.toNat).drop 0)++[l0[i4.toNat]!])++(bH.take bH.length).drop fS.toNat)) ?_ ?_
      .refine GK Z Z (fun hok=>?_);refine Bm hok 1 Y Z Y (Bm hok 2 Y Z Y ?_);obtain⟨eb,h⟩:=h;refine NN hok 3 [45,46] (cJ++([])) (Md SG Nd) Y Z (fun _ hy hK=>AdL HY Y (fun w hw=>(za.sl hw (SH hy))) Y eb) (Bm hok 5 Y Z Y (Bm hok 6 Y Z Y ?_));obtain⟨gl,h⟩:=h;refine xb hok 7 [49,50] Y Z (fun _ hK=>Hy HY Y Y (fun w hw=>(dK.keep hw (fun k hk=>(hK k hk).elim (fun h=>(Fr.seg dA Fr.nil) k h) id))) Y gl) (xb hok 8 [51] Y Z (fun _ hK=>HN (off:=0) (u:=iI (l0[i4.toNat]!)) Y GF Y (fun w hw=>(dK.keep hw (fun k hk=>(hK k hk).elim (fun h=>(Fr.seg dA Fr.nil) k h) id))) (GG gl) Y Y) (Bm hok 11 Y Z Y (Bm hok 12 Y Z Y ?_)));obtain⟨gB,h⟩:=h;refine NN hok 13 [55,56] (cJ++([])) (Md SG Nd) Y Z (fun _ hy hK=>AdK HY Y (fun w hw=>(za.sl hw (SH hy))) Y gB) (Pg hok 0 9 [] [(52,_)] Y Y Y Y Z ln (lc Y ln) Z Z trivial trivial (Ho HY VU (HD Y) Y Y (.nil _)) (Ho HY VU (HD Y) Y Y (.int Y Y (.nil _))) ?_ ?_)
       .rintro _ _ ⟨F7,wG,rfl,rfl⟩;refine⟨RA,KM,?_⟩;obtain⟨gc,h⟩:=h;refine Pg hok 4 9 [(44,_),(47,_)] [(52,_)] Y Y Y Y Z (lc Y (lc Y ln)) (lc Y ln) Z Z trivial trivial (OT.st (fun _ h=>Pull.st qK h) (Hj (l:=[]) (l':=(bH.take fS.toNat).drop 0) (B:=[_]) Ri Y Y (LR 0 (l:=[]) mH Y Y (fun i hi=>match i,hi with  | q+0,h=>absurd h U)) (fun w2 cC=>((za.cut (Nat.zero_le _) (LN eb) D).sl cC SG)) (fun _ _=>Y) gc (G2 gc D))) (Ho HY VU (HD Y) Y Y (.int Y Y (.nil _))) ?_ ?_
        .rintro jJ _ ⟨dM,rfl,tm,d6⟩;have cG:=Cov.trans (Cov.new wG) tm
         refine⟨RA,KM,?_⟩;refine GV hok 9 [(52,_)] Y Y Z (lc Y ln) Z trivial (Ho HY VU (HD Y) Y Y (.int Y Y (.nil _))) ?_;rintro _ _ ⟨r4,yG,rfl,rfl⟩;refine⟨RA,KM,?_⟩;obtain⟨gY,h⟩:=h;refine GV hok 10 [(48,_),(53,_)] Y Y Z (lc Y (lc Y ln)) Z trivial (OT.push (fun q_=>(r4,_)::(q_++(cJ++([])))) (fun _=>(qC qH)) (OT.st (fun _ h=>Pull.st (qC qH) h) (Hj (l:=([]++(bH.take fS.toNat).drop 0)) (l':=[l0[i4.toNat]!]) (B:=dM) Ri Y Y d6 (fun w2 cC=>(JH 1 (l:=[l0[i4.toNat]!]) cC (mR mH) Y Y AJ)) (fun _ _=>Y) gY (G2 gY D)))) ?_;rintro jH _ ⟨ef,rfl,km,dV⟩;have cO:=Cov.trans cG km
         refine⟨RA,KM,?_⟩;refine Ig (H':=(r4,_)::(ef++(cJ++([])))) Y ?_;obtain⟨gA,h⟩:=h;refine Lh hok 4 14 [(54,_),(57,_)] Y Y Z Z (lc Y (lc Y ln)) Z trivial (OT.push (fun q_=>(r4,_)::(q_++(cJ++([])))) (fun _=>(qC qH)) (OT.st (fun _ h=>Pull.st (qC qH) h) (Hj (l:=(([]++(bH.take fS.toNat).drop 0)++[l0[i4.toNat]!])) (l':=(bH.take bH.length).drop fS.toNat) (B:=ef) Ri Y Y dV (fun w2 cC=>((za.cut (LN gB) (Nat.le_refl _) D).sl cC SG)) (fun _ _=>Y) gA (G2 gA D)))) ?_;rintro kw _ ⟨gq,rfl,pX,fJ⟩;have df:=Cov.trans cO pX
         refine⟨KM,?_⟩;exact Ig (H':=(r4,_)::(gq++(cJ++([])))) Y (Ba hok 15 Y Z Y (GM hok Z (Nh (e':=[(0,v0),(3,kw),(4,iI i4)]) (gq++([])) (sl Y) KP ⟨kw,gq,Y,Y,df,fJ⟩)))
        .rintro _ _ ⟨r4,yG,rfl,rfl⟩;refine⟨RA,KM,?_⟩;refine GV hok 4 [(44,_),(47,_)] Y Y Z (lc Y (lc Y ln)) Z trivial (OT.push (fun q_=>(r4,_)::(q_++(cJ++([])))) (fun _=>(qC qH)) (OT.st (fun _ h=>Pull.st (qC qK) h) (Hj (l:=[]) (l':=(bH.take fS.toNat).drop 0) (B:=[_]) Ri Y Y (LR 0 (l:=[]) mH Y Y (fun i hi=>match i,hi with  | q+0,h=>absurd h U)) (fun w2 cC=>((za.cut (Nat.zero_le _) (LN eb) D).sl cC SG)) (fun _ _=>Y) gc (G2 gc D)))) ?_;rintro xA _ ⟨iH,rfl,tl,oB⟩;have gZ:=Cov.trans (Cov.new wG) tl
         refine⟨RA,KM,?_⟩;refine Ig (H':=(r4,_)::(iH++(cJ++([])))) Y ?_;obtain⟨lO,h⟩:=h;refine GV hok 10 [(48,_),(53,_)] Y Y Z (lc Y (lc Y ln)) Z trivial (OT.push (fun q_=>(r4,_)::(q_++(cJ++([])))) (fun _=>(qC qH)) (OT.st (fun _ h=>Pull.st (qC qH) h) (Hj (l:=([]++(bH.take fS.toNat).drop 0)) (l':=[l0[i4.toNat]!]) (B:=iH) Ri Y Y oB (fun w2 cC=>(JH 1 (l:=[l0[i4.toNat]!]) cC (mR mH) Y Y AJ)) (fun _ _=>Y) lO (G2 lO D)))) ?_;rintro sa _ ⟨jl,rfl,tk,gU⟩;have ed:=Cov.trans gZ tk
         refine⟨RA,KM,?_⟩;refine Ig (H':=(r4,_)::(jl++(cJ++([])))) Y ?_;obtain⟨jA,h⟩:=h;refine Lh hok 4 14 [(54,_),(57,_)] Y Y Z Z (lc Y (lc Y ln)) Z trivial (OT.push (fun q_=>(r4,_)::(q_++(cJ++([])))) (fun _=>(qC qH)) (OT.st (fun _ h=>Pull.st (qC qH) h) (Hj (l:=(([]++(bH.take fS.toNat).drop 0)++[l0[i4.toNat]!])) (l':=(bH.take bH.length).drop fS.toNat) (B:=jl) Ri Y Y gU (fun w2 cC=>((za.cut (LN gB) (Nat.le_refl _) D).sl cC SG)) (fun _ _=>Y) jA (G2 jA D)))) ?_;rintro qv _ ⟨g9,rfl,pW,gj⟩;have ez:=Cov.trans ed pW
         refine⟨KM,?_⟩;exact Ig (H':=(r4,_)::(g9++(cJ++([])))) Y (Ba hok 15 Y Z Y (GM hok Z (Nh (e':=[(0,v0),(3,qv),(4,iI i4)]) (g9++([])) (sl Y) KP ⟨qv,g9,Y,Y,ez,gj⟩)))
       .rintro _ _ ⟨r4,yG,rfl,rfl⟩;refine⟨RA,KM,?_⟩;refine GV hok 0 [] Y Y Z ln Z trivial (Ho HY VU (HD Y) Y Y (.nil _)) ?_;rintro _ _ ⟨F7,wG,rfl,rfl⟩;refine⟨RA,KM,?_⟩;obtain⟨li,h⟩:=h;refine GV hok 4 [(44,_),(47,_)] Y Y Z (lc Y (lc Y ln)) Z trivial (OT.st (fun _ h=>Pull.st qK h) (Hj (l:=[]) (l':=(bH.take fS.toNat).drop 0) (B:=[_]) Ri Y Y (LR 0 (l:=[]) mH Y Y (fun i hi=>match i,hi with  | q+0,h=>absurd h U)) (fun w2 cC=>((za.cut (Nat.zero_le _) (LN eb) D).sl cC SG)) (fun _ _=>Y) li (G2 li D))) ?_;rintro B2 _ ⟨wR,rfl,As,tK⟩;have lR:=Cov.trans (Cov.new wG) As
        refine⟨RA,KM,?_⟩;obtain⟨oW,h⟩:=h;refine GV hok 10 [(48,_),(53,_)] Y Y Z (lc Y (lc Y ln)) Z trivial (OT.st (fun _ h=>Pull.st qH h) (Hj (l:=([]++(bH.take fS.toNat).drop 0)) (l':=[l0[i4.toNat]!]) (B:=wR) Ri Y Y tK (fun w2 cC=>(JH 1 (l:=[l0[i4.toNat]!]) cC (mR mH) Y Y AJ)) (fun _ _=>Y) oW (G2 oW D))) ?_;rintro E3 _ ⟨D0,rfl,Ar,Bg⟩;have yz:=Cov.trans lR Ar
        refine⟨RA,KM,?_⟩;obtain⟨jz,h⟩:=h;refine Lh hok 4 14 [(54,_),(57,_)] Y Y Z Z (lc Y (lc Y ln)) Z trivial (OT.st (fun _ h=>Pull.st qH h) (Hj (l:=(([]++(bH.take fS.toNat).drop 0)++[l0[i4.toNat]!])) (l':=(bH.take bH.length).drop fS.toNat) (B:=D0) Ri Y Y Bg (fun w2 cC=>((za.cut (LN gB) (Nat.le_refl _) D).sl cC SG)) (fun _ _=>Y) jz (G2 jz D))) ?_;rintro oO _ ⟨gR,rfl,lP,gI⟩;have ey:=Cov.trans yz lP
        refine⟨KM,?_⟩;exact Ba hok 15 Y Z Y (GM hok Z (Nh (e':=[(0,v0),(3,oO),(4,iI i4)]) (gR++([])) (sl Y) KP ⟨oO,gR,Y,Y,ey,gI⟩))
      .rintro _ _ ⟨wx,vi,rfl,rfl,yC,yJ⟩;replace h:=hk;refine GZ 1 (Gt (Gr (vm Y ?_)));obtain⟨oU,h⟩:=h;exact xQ Y (Hk Y Y Y oU) (va Y (Gw (xN h ⟨wx,vi,Y,Y,yJ,yC⟩)))
  .exact GJ (Gs (xO h ⟨fA,cJ,Y,Y,Y,za,dA⟩))
 .rintro _ _ _ ⟨eV,cW,rfl,rfl,rfl,gJ,fG⟩;replace h:Ps bH r:=h;unfold Ps at h;refine GD (qW (vm Y (va Y (nV ?_))));subst h
  exact rO results130 Y (⟨_,cW,Y,Y,gJ,fG⟩)
theorem V6 {kz} (w) (r) (h:WO kz r):Con prog 115 #[iI kz] w (Is (.bool r) []):=by
 unfold WO at h;refine ce func115 Y ntmps115 Y (wS (va Y (nY (wk [] Y [(2,.bool ((decide (0<=kz))&&(decide (kz<=1099511627776))))] ?_ ?_))))
 .refine Gr (vm Y (xQ Y (Ie Y Y) (vm Y (IY 5 Y (fun bB=>?_) fun bB=>?_))))
  .exact vm Y (xQ Y (J1 Y Y) (vt Y (va Y (Ma bB))))
  .exact vs Y (vs Y (vf Y (va Y (Ma bB))))
 .refine Gt (Hl ?_);subst h
  exact rO results115 Y (⟨Y,Y⟩)
theorem AaT {l0 bZ v0} (w) (dK:SL w 3 (mv (kS [1])) v0 l0) (r) (h:AaU l0 bZ r):Con prog 123 #[v0,iI bZ] w (Is (iI r) []):=by
 unfold AaU at h;refine ce func123 Y ntmps123 Y (wS (va Y (nY (wS (va Y (nS (Gz ?_)))))));obtain⟨x1,fq,h⟩:=h;refine xL (fun(i5:Int) e H=>e=[(0,v0),(1,iI bZ),(5,iI i5)]/\H=[]) (fun x ex e H=>match x with | .inl _=>ex=.exit 0/\e=[]/\H=[] | .inr x4=>ex=.ret/\e=[(4,iI x4)]/\H=[]) fq ⟨Y,Y⟩ ?_ ?_
 .rintro i5 o _ _ ⟨rfl,rfl⟩ hb;have h:QW l0 bZ i5 o:=hb
  clear hb;unfold QW at h;refine Gu (wS (vm Y (vm Y (xQ Y (Hs Y underlying87 Y (SL.val dK)) (xQ Y (G6 Y Y) (nS (wd Y h (fun bB h=>?_) fun bB h=>?_)))))))
  .refine jS (Gz (Gu ?_));obtain⟨d3,h⟩:=h;refine wk [0,1,5] Y [(22,.bool ((decide (0<bZ))&&(decide ((l0[i5.toNat]!) 0=bZ))))] ?_ ?_
   .refine Gr (vm Y (xQ Y (Hz Y Y) (vm Y (IY 14 Y (fun cx=>?_) fun cx=>?_))))
    .exact vm Y (vm Y (xQ Y (Hy OY Y Y (fun w hw=>(dK.keep hw Fr.nil)) Y (d3 (XP (dT cx) bB cx))) (xQ Y (Nw Mj Y Y (fun w hw=>(dK.keep hw Fr.nil)) (GG (d3 (XP (dT cx) bB cx)))) (xQ Y (HN (off:=0) (u:=iI ((l0[i5.toNat]!) 0)) Y GF Y (fun w hw=>(dK.keep hw Fr.nil)) (GG (d3 (XP (dT cx) bB cx))) Y Y) (vm Y (xQ Y (GI Y Y) (P2 bB cx)))))))
    .exact P2 bB cx
   .refine Gt (wb Y h (fun cb h=>?_) fun cb h=>?_)
    .refine wS (vm Y ?_);obtain⟨eY,h⟩:=h;exact xQ Y (Hk Y Y Y eY) (va Y (nV (GB (Gx (xO h ⟨Y,Y,Y⟩)))))
    .refine GY (GZ 1 (Gt (Gr (vm Y ?_))));obtain⟨eX,h⟩:=h;exact xQ Y (Hk Y Y Y eX) (va Y (Gw (xN h ⟨Y,Y⟩)))
  .exact GJ (Gs (xO h ⟨Y,Y,Y⟩))
 .rcases x1 with _ | x4
  .rintro _ _ _ ⟨rfl,rfl,rfl⟩;replace h:Qi r:=h;unfold Qi at h;refine GD (qW (va Y (nV ?_)));subst h
   exact rO results123 Y (⟨Y,Y⟩)
  rintro _ _ _ ⟨rfl,rfl,rfl⟩;replace h:Qh x4 r:=h;unfold Qh at h;refine GB (Gx ?_);subst h
  exact rO results123 Y (⟨Y,Y⟩)
theorem Abd {m0} (w) (r) (h:Aeq m0 r):Con prog 150 #[AI 28 m0] w (Is (.bool r) []):=by
 unfold Aeq at h;refine ce func150 Y ntmps150 Y (wS (xr Y (He Y) ?_));rintro _ _ ⟨b1,ko,rfl,rfl⟩;refine va Y (nY (wk [] Y [(2,.bool ((decide (m0 0=11))&&((Pf m0))))] ?_ ?_))
 .refine Gr (Xf G9 Y Y (Xi (m0 0) GF Y Y (xQ Y (GI Y Y) (vm Y (IY 6 Y (fun bB=>?_) fun bB=>?_)))))
  .exact xQ Y (GA Y Hm mH) (xc Y Ahc Y (fun w1 br=>Py w1 _ (QV)) (vt Y (va Y (Ma bB))))
  .exact vs Y (vs Y (vf Y (va Y (Ma bB))))
 .refine Gt (Hl ?_);subst h
  exact yA results150 Y [] KP (⟨Y,Y⟩)
theorem AcM {m0} (w) (r) (h:XK m0 r):Con prog 126 #[AI 28 m0] w (Is (.bool r) []):=by
 unfold XK at h;refine ce func126 Y ntmps126 Y (wS (xr Y (He Y) ?_));rintro _ _ ⟨b1,ko,rfl,rfl⟩;refine va Y (nY (wk [] Y [(2,.bool ((((QH m0))&&(decide (m0 9=m0 12)))&&((decide (m0 10=0))||(decide (m0 10=m0 13)))))] ?_ ?_))
 .refine Gr (xQ Y (GA Y Hm mH) (xc Y Agd Y (fun w1 br=>Abd w1 _ (Aep)) (vm Y (VZ 5 Y (fun bB=>?_) fun bB=>?_))))
  .refine Xf Hx Y Y (Xi (m0 9) GF Y Y (Xf Iu Y Y (xQ Y (KY (j:=0) OZ Y Y ⟨Aa,Aa⟩ Y) (xQ Y (L4 Kz Y) (Xi (m0 12) GF Y Y (xQ Y (GI Y Y) (vt Y (vm Y (IY 14 Y (fun bA=>?_) fun bA=>?_)))))))))
   .refine Xf Lv Y Y (Xi (m0 10) GF Y Y (xQ Y (GI Y Y) (vm Y (IY 18 Y (fun cx=>?_) fun cx=>?_))))
    .exact vs Y (vs Y (vs Y (vs Y (vs Y (vs Y (vs Y (vt Y (vt Y (va Y (Ng bB bA cx))))))))))
    .exact Xf Lv Y Y (Xi (m0 10) GF Y Y (Xf Iu Y Y (xQ Y (KY (j:=0) OZ Y Y ⟨Aa,Aa⟩ Y) (xQ Y (L4 Rb Y) (Xi (m0 13) GF Y Y (xQ Y (GI Y Y) (vf Y (vt Y (va Y (Ng bB bA cx))))))))))
   .refine vs Y (vs Y (vs Y (vs Y (vs Y (vs Y (vs Y (vs Y (vs Y (vs Y (vs Y (vs Y (vf Y (va Y ?_)))))))))))));exact P2 bB bA
  .refine vs Y (vs Y (vs Y (vs Y (vs Y (vs Y (vs Y (vf Y (vm Y (vs Y (vs Y (vs Y (vs Y (vs Y ?_)))))))))))));exact vs Y (vs Y (vs Y (vs Y (vs Y (vs Y (vs Y (vf Y (va Y (Ma bB)))))))))
 .refine Gt (Hl ?_);subst h
  exact yA results126 Y [] KP (⟨Y,Y⟩)
theorem Acl {m0 dO v1} (w) (ju:SL w 2 iv v1 dO) (r) (h:Ud m0 dO r):Con prog 124 #[AI 28 m0,v1] w (Is (.bool r) []):=by
 unfold Ud at h;refine ce func124 Y ntmps124 Y (wS (xr Y (He Y) ?_));rintro _ _ ⟨b2,j5,rfl,rfl⟩;refine va Y (nY (wS (xQ Y (GA Y Hm mH) (xc Y Agd Y (fun w1 br=>Abd w1 _ (Aep)) (xQ Y (Hh Y) (nS (wc Y h (fun bB h=>?_) fun bB h=>?_)))))))
 .refine wS (va Y (nU ?_));subst h
  exact yA results124 Y [] KP (⟨Y,Y⟩)
 .refine jS (wS (va Y (nS (Gz ?_))));obtain⟨x1,fq,h⟩:=h;refine xL (fun(i5:Int) e H=>e=[(1,v1),(2,.pointer (some ⟨b2,0,none⟩)),(5,iI i5)]/\H=(b2,BK 28 (iv m0) 45)::([])) (fun x ex e H=>match x with | .inl _=>ex=.exit 0/\e=[]/\H=(b2,BK 28 (iv m0) 45)::([]) | .inr _=>ex=.ret/\e=[(4,.bool false)]/\H=(b2,BK 28 (iv m0) 45)::([])) fq ⟨Y,Y⟩ ?_ ?_
  .rintro i5 o _ _ ⟨rfl,rfl⟩ hb;have h:MS m0 dO i5 o:=hb
   clear hb;unfold MS at h;refine Gu (wS (vm Y (Xf Ko Y Y (Xi (m0 11) GF Y Y (xQ Y (G6 Y Y) (nS (wd Y h (fun bA h=>?_) fun bA h=>?_)))))))
   .refine jS (Gz (wS (va Y (nY (wS (va Y (Gw ?_)))))));refine Gt (Gz ?_);obtain⟨fg,kA,h⟩:=h;refine xL (fun s e H=>match s with | (fg,k7)=>e=[(1,v1),(2,.pointer (some ⟨b2,0,none⟩)),(5,iI i5),(6,.bool (fg)),(7,iI k7)]/\H=(b2,BK 28 (iv m0) 45)::([])) (fun(fg:Bool) ex e H=>ex=.exit 2/\e=[(1,v1),(2,.pointer (some ⟨b2,0,none⟩)),(5,iI i5),(6,.bool (fg))]/\H=(b2,BK 28 (iv m0) 45)::([])) kA ⟨Y,Y⟩ ?_ ?_
    .rintro⟨fg,k7⟩ o _ _ ⟨rfl,rfl⟩ hb;have h:K4 m0 dO i5 fg k7 o:=hb
     clear hb;unfold K4 at h;refine Gu (wS (vm Y (vm Y (xQ Y (Hs Y underlying173 Y (SL.val ju)) (xQ Y (G6 Y Y) (nS (wd Y h (fun cx h=>?_) fun cx h=>?_)))))))
     .refine jS (Gz ?_);obtain⟨el,eY,h⟩:=h;refine wk [1,2,5,7] Y [(6,.bool ((fg)||((IJ 2 (dO[k7.toNat]!) (fun i=>m0 ((12+(i5.toNat*2))+i))))))] ?_ ?_
      .refine GK Z Z (fun hok=>?_);refine Bm hok 0 Y Z Y (Bm hok 1 Y Z Y (db' 24 Y (fun ct=>?_) fun ct=>?_))
       .exact Bs hok 2 Y Z (Bs hok 3 Y Z (Bs hok 4 Y Z (Bs hok 5 Y Z (Bs hok 6 Y Z (Bs hok 7 Y Z (Bs hok 8 Y Z (Bs hok 9 Y Z (Bs hok 10 Y Z (xb hok 11 [24,33] Y Z (fun _ hK=>HW Y Y) (Ba hok 12 Y Z Y (GM hok Z (qk Y (by simp[cx,ct]) Y))))))))))))
       .exact Bm hok 2 Y Z Y (Bm hok 3 Y Z Y (xb hok 4 [25,26,24] Y Z (fun _ hK=>Hy Vw Y Y (fun w hw=>(ju.keep hw (fun k hk=>(hK k hk).elim (fun h=>(Fr.cons j5 Fr.nil) k h) id))) Y (el (XP (bF ct) cx ct))) (xb hok 5 [27,24] Y Z (fun _ hK=>ND Y Sw Y (fun w hw=>(ju.keep hw (fun k hk=>(hK k hk).elim (fun h=>(Fr.cons j5 Fr.nil) k h) id))) (GG (el (XP (bF ct) cx ct))) Y) (Bm hok 6 Y Z Y (Bf Iu hok 7 Y Z Y (xb hok 8 [30,29,24] Y Z (fun _ hK=>KY OZ Y Y (eY (XP (bF ct) cx ct)) Y) (NN hok 9 [31,24] ((b2,_)::([])) (rsC mH Nd) Y Z (fun _ hy hK=>Jx Y Sw (hy _ mH) (by have:=(eY (XP (bF ct) cx ct));omega) (fun _ _=>Y)) (xb hok 10 [28,32,24] Y Z (fun _ hK=>Io Ahm Y Y) (xb hok 11 [24,33] Y Z (fun _ hK=>H4 Y Y) (Ba hok 12 Y Z Y (GM hok Z (qk Y (by simp[cx,ct]) Y))))))))))))
      .refine GZ 3 (Gt (Gr (vm Y ?_)));obtain⟨kD,h⟩:=h;exact xQ Y (Hk Y Y Y kD) (va Y (Gw (xN h ⟨Y,Y⟩)))
     .exact GJ (Gs (xO h ⟨Y,Y,Y⟩))
    .rintro _ _ _ ⟨rfl,rfl,rfl⟩;replace h:N2 i5 fg o:=h;unfold N2 at h;refine GD (qW (vm Y (xQ Y (Hh Y) (nS (wc Y h (fun co h=>?_) fun co h=>?_)))))
     .exact wS (va Y (nV (GB (Gx (xO h ⟨Y,Y,Y⟩)))))
     .refine GY (GZ 1 (Gt (Gr (vm Y ?_))));obtain⟨jv,h⟩:=h;exact xQ Y (Hk Y Y Y jv) (va Y (Gw (xN h ⟨Y,Y⟩)))
   .exact GJ (Gs (xO h ⟨Y,Y,Y⟩))
  .rcases x1 with _ | x1
   .rintro _ _ _ ⟨rfl,rfl,rfl⟩;replace h:S5 r:=h;unfold S5 at h;refine GD (qW (va Y (nV ?_)));subst h
    exact yA results124 Y [] KP (⟨Y,Y⟩)
   cases x1
   rintro _ _ _ ⟨rfl,rfl,rfl⟩;replace h:S4 r:=h;unfold S4 at h;refine GB (Gx ?_);subst h
   exact yA results124 Y [] KP (⟨Y,Y⟩)
theorem X2 {m0} (w) (r) (h:P6 m0 r):Con prog 127 #[AI 28 m0] w (Is (iI r) []):=by
 unfold P6 at h;refine ce func127 Y ntmps127 Y (wS (xr Y (He Y) ?_));rintro _ _ ⟨b1,ko,rfl,rfl⟩;refine va Y (nR (Xf Iu Y Y (xQ Y (KY (j:=0) OZ Y Y ⟨by omega,by omega⟩ Y) (xQ Y (L4 Kz Y) (Xi (m0 12) GF Y Y (va Y (nY (Gu ?_))))))));refine Gr (va Y (nS (Gz ?_)));obtain⟨n3,fq,h⟩:=h;refine xL (fun s e H=>match s with | (n3,i4)=>e=[(1,.pointer (some ⟨b1,0,none⟩)),(3,iI n3),(4,iI i4)]/\H=(b1,BK 28 (iv m0) 45)::([])) (fun(n3:Int) ex e H=>ex=.exit 0/\e=[(3,iI n3)]/\H=(b1,BK 28 (iv m0) 45)::([])) fq ⟨Y,Y⟩ ?_ ?_
 .rintro⟨n3,i4⟩ o _ _ ⟨rfl,rfl⟩ hb;have h:Kr m0 n3 i4 o:=hb
  clear hb;unfold Kr at h;refine Gu (wS (vm Y (Xf Ko Y Y (Xi (m0 11) GF Y Y (xQ Y (G6 Y Y) (nS (wd Y h (fun bB h=>?_) fun bB h=>?_)))))))
  .refine jS (Gz (wS (vm Y (Xf Iu Y Y ?_))));obtain⟨d3,h⟩:=h;refine xQ Y (KY OZ Y Y d3 Y) (xQ Y (L4 Kz Y) (xQ Y (TH (v:=m0 (12+(i4.toNat*2))) Y GF mH (by have:=d3;omega) Y) (vm Y (xQ Y (Hz Y Y) (nS ?_)))));have hk:=h.2
   replace h:=h.1;refine wk [1,4] Y [(3,iI (if n3<m0 (12+(i4.toNat*2)) then m0 (12+(i4.toNat*2)) else n3))] ?_ ?_
   .refine wd Y h (fun cx h=>?_) fun cx h=>?_
    .refine Gr (vm Y (Xf Iu Y Y ?_));obtain⟨el,h⟩:=h;exact xQ Y (KY OZ Y Y el Y) (xQ Y (L4 Kz Y) (xQ Y (TH (v:=m0 (12+(i4.toNat*2))) Y GF mH (by have:=el;omega) Y) (va Y (P2 bB cx))))
    .exact GY (qk Y (by simp[bB,cx]) Y)
   .replace h:=hk;refine GZ 1 (Gt (Gr (vm Y ?_)));obtain⟨eY,h⟩:=h;exact xQ Y (Hk Y Y Y eY) (va Y (Gw (xN h ⟨Y,Y⟩)))
  .exact GJ (Gs (xO h ⟨Y,Y,Y⟩))
 .rintro _ _ _ ⟨rfl,rfl,rfl⟩;replace h:Ph n3 r:=h;unfold Ph at h;refine GD (qW (vm Y (va Y (nV ?_))));subst h
  exact yA results127 Y [] KP (⟨Y,Y⟩)
theorem Zy {r0 n1} (w) (r) (h:RG r0 n1 r):Con prog 75 #[AI 2 r0,iI n1] w (Is (iI r) []):=by
 unfold RG at h;refine ce func75 Y ntmps75 Y (wS (xr Y (He Y) ?_));rintro _ _ ⟨b2,j5,rfl,rfl⟩;refine va Y (nR (va Y (nY (wS (va Y (nS ?_))))));refine Gz ?_;obtain⟨s5,fq,h⟩:=h;refine xL (fun s e H=>match s with | (s5,i6)=>e=[(1,iI n1),(2,.pointer (some ⟨b2,0,none⟩)),(5,iI s5),(6,iI i6)]/\H=(b2,BK 2 (iv r0) 39)::([])) (fun(s5:Int) ex e H=>ex=.exit 0/\e=[(5,iI s5)]/\H=(b2,BK 2 (iv r0) 39)::([])) fq ⟨Y,Y⟩ ?_ ?_
 .rintro⟨s5,i6⟩ o _ _ ⟨rfl,rfl⟩ hb;have h:Mp r0 n1 s5 i6 o:=hb
  clear hb;unfold Mp at h;refine Gu (wS (vm Y (Xf PS Y Y (Xi (r0 0) GF Y Y (xQ Y (G6 Y Y) (nS (wd Y h (fun bB h=>?_) fun bB h=>?_)))))))
  .refine jS (Gz (wS (vm Y ?_)));obtain⟨d3,h⟩:=h;refine xQ Y (Hk Y Y Y d3) (va Y (nR (vm Y (vm Y (xQ Y (Hz Y Y) (nS (wk [1,2,6] Y [(5,iI (if n1<s5+1 then 1 else s5+1))] ?_ ?_)))))))
   .refine Zh Y (fun cx=>?_) fun cx=>?_
    .exact Gr (va Y (P2 bB cx))
    .exact GY (qk Y (by simp[bB,cx]) Y)
   .refine GZ 1 (Gt (Gr (vm Y ?_)));obtain⟨el,h⟩:=h;exact xQ Y (Hk Y Y Y el) (va Y (Gw (xN h ⟨Y,Y⟩)))
  .exact GJ (Gs (xO h ⟨Y,Y,Y⟩))
 .rintro _ _ _ ⟨rfl,rfl,rfl⟩;replace h:QP s5 r:=h;unfold QP at h;refine GD (qW (vm Y (va Y (nV ?_))));subst h
  exact yA results75 Y [] KP (⟨Y,Y⟩)
theorem J6 {c0} (w) (r) (h:VI c0 r):Con prog 12 #[AG 7 (mv (kS [1]) c0)] w (Is (.bool r) []):=by
 unfold VI at h;refine ce func12 Y ntmps12 Y (wS (xr Y (He Y) ?_));rintro _ _ ⟨b1,ko,rfl,rfl⟩;refine va Y (nR (Xf PT Y Y (Xi (c0 0) GF Y Y (Xf To Y Y (Xi (c0 2) GF Y Y (Xf Tn Y Y (Xi (c0 3) GF Y Y (Xf XB Y Y (Xi (c0 4) GF Y Y (Xf XA Y Y ?_))))))))));refine Xi (c0 5) GF Y Y (Xf Xz Y Y (Xi (c0 6) GF Y Y (xr Y (Ho HY VU (HD Y) Y Y (.int Y Y (.int Y Y (.int Y Y (.int Y Y (.int Y Y (.int Y Y (.int Y Y (.int Y Y (.int Y Y (.int Y Y (.int Y Y (.int Y Y (.nil _)))))))))))))) ?_)));rintro _ _ ⟨Gn,FB,rfl,rfl⟩;refine va Y (nY (wS (va Y (nS (Gz (AbH 60 (Of (Gu (Gu ?_)))))))));refine Gr (vm Y (vm Y (xQ Y (PD Y underlying59 Y) (xQ Y (G6 Y Y) (nS (GQ Y Y (jS (Gz (Gu (wk [3,4] Y [(40,.bool ((decide (c0 0<1))||(decide (64<c0 0))))] ?_ ?_))))))))))
 .refine GK Z Z (fun hok=>?_);refine Bm hok 0 Y Z Y (Bm hok 1 Y Z Y (xb hok 2 [24,25] Y Z (fun _ hK=>Kf HY Y Y ⟨Aa,Aa⟩ (Y:_=0)) (Bl (iI (c0 0)) GF hok 3 Y Z Y mH (xb hok 4 [27] Y Z (fun _ hK=>G6 Y Y) (Bm hok 5 Y Z Y (dd' 29 Y (fun bB=>?_) fun bB=>?_))))))
  .exact Bs hok 6 Y Z (Bs hok 7 Y Z (Bs hok 8 Y Z (Bs hok 9 Y Z (Bs hok 10 Y Z (Bs hok 11 Y Z (Bs hok 12 Y Z (Bs hok 13 Y Z (Bs hok 14 Y Z (Bs hok 15 Y Z (xb hok 16 [29,39] Y Z (fun _ hK=>HW Y Y) (GM hok Z (qk Y (by simp[bB]) Y))))))))))))
  .exact Bm hok 6 Y Z Y (Bm hok 7 Y Z Y (xb hok 8 [30,31,29] Y Z (fun _ hK=>Kf HY Y Y ⟨by omega,by omega⟩ (Y:_=0)) (Bl (iI (c0 0)) GF hok 9 Y Z Y mH (Bm hok 10 Y Z Y (Bm hok 11 Y Z Y (xb hok 12 [35,29] Y Z (fun _ hK=>Hk Y Y Y ⟨by first | omega | simp,by first | omega | simp⟩) (xb hok 13 [34,36,29] Y Z (fun _ hK=>Kf HY Y Y ⟨by omega,by omega⟩ (Y:_=1)) (Bl (iI 64) GF hok 14 Y Z Y mH (xb hok 15 [33,38,29] Y Z (fun _ hK=>Hz Y Y) (xb hok 16 [29,39] Y Z (fun _ hK=>H4 Y Y) (GM hok Z (qk Y (by simp[bB]) Y))))))))))))
 .refine Gt (wb Y h (fun bA h=>?_) fun bA h=>?_)
  .refine wS (va Y (nV (GB (Gx (Gx (GB (Gx ?_)))))));subst h
   exact yA results12 Y [] KP (⟨Y,Y⟩)
  .refine GY (GZ 1 (Gt (Gr (vm Y (xQ Y (Hk Y Y Y ⟨by first | omega | simp,by first | omega | simp⟩) (va Y (Gw (AhI (Kp.st (Kp.keep (Kp.new ko Kp.nil))) (Ml (Of (Gu (wS ?_))))))))))));refine vm Y (vm Y (xQ Y (PD Y underlying59 Y) (xQ Y (G6 Y Y) (nS (GQ Y Y (jS (Gz (Gu (wk [3,4] Y [(40,.bool ((decide (c0 2<1))||(decide (1000<c0 2))))] ?_ ?_)))))))))
   .refine GK Z Z (fun hok=>?_);refine Bm hok 0 Y Z Y (Bm hok 1 Y Z Y (xb hok 2 [24,25] Y Z (fun _ hK=>Kf HY Y Y ⟨Aa,Aa⟩ (Y:_=2)) (Bl (iI (c0 2)) GF hok 3 Y Z Y mH (xb hok 4 [27] Y Z (fun _ hK=>G6 Y Y) (Bm hok 5 Y Z Y (dd' 29 Y (fun cx=>?_) fun cx=>?_))))))
    .exact Bs hok 6 Y Z (Bs hok 7 Y Z (Bs hok 8 Y Z (Bs hok 9 Y Z (Bs hok 10 Y Z (Bs hok 11 Y Z (Bs hok 12 Y Z (Bs hok 13 Y Z (Bs hok 14 Y Z (Bs hok 15 Y Z (xb hok 16 [29,39] Y Z (fun _ hK=>HW Y Y) (GM hok Z (qk Y (by simp[bA,cx]) Y))))))))))))
    .exact Bm hok 6 Y Z Y (Bm hok 7 Y Z Y (xb hok 8 [30,31,29] Y Z (fun _ hK=>Kf HY Y Y ⟨by omega,by omega⟩ (Y:_=2)) (Bl (iI (c0 2)) GF hok 9 Y Z Y mH (Bm hok 10 Y Z Y (Bm hok 11 Y Z Y (xb hok 12 [35,29] Y Z (fun _ hK=>Hk Y Y Y ⟨by first | omega | simp,by first | omega | simp⟩) (xb hok 13 [34,36,29] Y Z (fun _ hK=>Kf HY Y Y ⟨by omega,by omega⟩ (Y:_=3)) (Bl (iI 1000) GF hok 14 Y Z Y mH (xb hok 15 [33,38,29] Y Z (fun _ hK=>Hz Y Y) (xb hok 16 [29,39] Y Z (fun _ hK=>H4 Y Y) (GM hok Z (qk Y (by simp[bA,cx]) Y))))))))))))
   .refine Gt (wb Y h (fun cb h=>?_) fun cb h=>?_)
    .refine wS (va Y (nV (GB (Gx (Gx (GB (Gx ?_)))))));subst h
     exact yA results12 Y [] KP (⟨Y,Y⟩)
    .refine GY (GZ 1 (Gt (Gr (vm Y (xQ Y (Hk Y Y Y ⟨by first | omega | simp,by first | omega | simp⟩) (va Y (Gw (Ml (Of (Gu (wS (vm Y ?_))))))))))));refine vm Y (xQ Y (PD Y underlying59 Y) (xQ Y (G6 Y Y) (nS (GQ Y Y (jS (Gz (Gu (wk [3,4] Y [(40,.bool ((decide (c0 3<1))||(decide (1000<c0 3))))] ?_ ?_))))))))
     .refine GK Z Z (fun hok=>?_);refine Bm hok 0 Y Z Y (Bm hok 1 Y Z Y (xb hok 2 [24,25] Y Z (fun _ hK=>Kf HY Y Y ⟨Aa,Aa⟩ (Y:_=4)) (Bl (iI (c0 3)) GF hok 3 Y Z Y mH (xb hok 4 [27] Y Z (fun _ hK=>G6 Y Y) (Bm hok 5 Y Z Y (dd' 29 Y (fun dU=>?_) fun dU=>?_))))))
      .exact Bs hok 6 Y Z (Bs hok 7 Y Z (Bs hok 8 Y Z (Bs hok 9 Y Z (Bs hok 10 Y Z (Bs hok 11 Y Z (Bs hok 12 Y Z (Bs hok 13 Y Z (Bs hok 14 Y Z (Bs hok 15 Y Z (xb hok 16 [29,39] Y Z (fun _ hK=>HW Y Y) (GM hok Z (qk Y (by simp[bA,cb,dU]) Y))))))))))))
      .exact Bm hok 6 Y Z Y (Bm hok 7 Y Z Y (xb hok 8 [30,31,29] Y Z (fun _ hK=>Kf HY Y Y ⟨by omega,by omega⟩ (Y:_=4)) (Bl (iI (c0 3)) GF hok 9 Y Z Y mH (Bm hok 10 Y Z Y (Bm hok 11 Y Z Y (xb hok 12 [35,29] Y Z (fun _ hK=>Hk Y Y Y ⟨by first | omega | simp,by first | omega | simp⟩) (xb hok 13 [34,36,29] Y Z (fun _ hK=>Kf HY Y Y ⟨by omega,by omega⟩ (Y:_=5)) (Bl (iI 1000) GF hok 14 Y Z Y mH (xb hok 15 [33,38,29] Y Z (fun _ hK=>Hz Y Y) (xb hok 16 [29,39] Y Z (fun _ hK=>H4 Y Y) (GM hok Z (qk Y (by simp[bA,cb,dU]) Y))))))))))))
     .refine Gt (wb Y h (fun ct h=>?_) fun ct h=>?_)
      .refine wS (va Y (nV (GB (Gx (Gx (GB (Gx ?_)))))));subst h
       exact yA results12 Y [] KP (⟨Y,Y⟩)
      .refine GY (GZ 1 (Gt (Gr (vm Y (xQ Y (Hk Y Y Y ⟨by first | omega | simp,by first | omega | simp⟩) (va Y (Gw (Ml (Of (Gu (wS (vm Y ?_))))))))))));refine vm Y (xQ Y (PD Y underlying59 Y) (xQ Y (G6 Y Y) (nS (GQ Y Y (jS (Gz (Gu (wk [3,4] Y [(40,.bool ((decide (c0 4<1))||(decide (4096<c0 4))))] ?_ ?_))))))))
       .refine GK Z Z (fun hok=>?_);refine Bm hok 0 Y Z Y (Bm hok 1 Y Z Y (xb hok 2 [24,25] Y Z (fun _ hK=>Kf HY Y Y ⟨Aa,Aa⟩ (Y:_=6)) (Bl (iI (c0 4)) GF hok 3 Y Z Y mH (xb hok 4 [27] Y Z (fun _ hK=>G6 Y Y) (Bm hok 5 Y Z Y (dd' 29 Y (fun dW=>?_) fun dW=>?_))))))
        .exact Bs hok 6 Y Z (Bs hok 7 Y Z (Bs hok 8 Y Z (Bs hok 9 Y Z (Bs hok 10 Y Z (Bs hok 11 Y Z (Bs hok 12 Y Z (Bs hok 13 Y Z (Bs hok 14 Y Z (Bs hok 15 Y Z (xb hok 16 [29,39] Y Z (fun _ hK=>HW Y Y) (GM hok Z (qk Y (by simp[bA,cb,ct,dW]) Y))))))))))))
        .exact Bm hok 6 Y Z Y (Bm hok 7 Y Z Y (xb hok 8 [30,31,29] Y Z (fun _ hK=>Kf HY Y Y ⟨by omega,by omega⟩ (Y:_=6)) (Bl (iI (c0 4)) GF hok 9 Y Z Y mH (Bm hok 10 Y Z Y (Bm hok 11 Y Z Y (xb hok 12 [35,29] Y Z (fun _ hK=>Hk Y Y Y ⟨by first | omega | simp,by first | omega | simp⟩) (xb hok 13 [34,36,29] Y Z (fun _ hK=>Kf HY Y Y ⟨by omega,by omega⟩ (Y:_=7)) (Bl (iI 4096) GF hok 14 Y Z Y mH (xb hok 15 [33,38,29] Y Z (fun _ hK=>Hz Y Y) (xb hok 16 [29,39] Y Z (fun _ hK=>H4 Y Y) (GM hok Z (qk Y (by simp[bA,cb,ct,dW]) Y))))))))))))
       .refine Gt (wb Y h (fun co h=>?_) fun co h=>?_)
        .refine wS (va Y (nV (GB (Gx (Gx (GB (Gx ?_)))))));subst h
         exact yA results12 Y [] KP (⟨Y,Y⟩)
        .refine GY (GZ 1 (Gt (Gr (vm Y (xQ Y (Hk Y Y Y ⟨by first | omega | simp,by first | omega | simp⟩) (va Y (Gw (Ml (Of (Gu (wS (vm Y ?_))))))))))));refine vm Y (xQ Y (PD Y underlying59 Y) (xQ Y (G6 Y Y) (nS (GQ Y Y (jS (Gz (Gu (wk [3,4] Y [(40,.bool ((decide (c0 5<1))||(decide (64<c0 5))))] ?_ ?_))))))))
         .refine GK Z Z (fun hok=>?_);refine Bm hok 0 Y Z Y (Bm hok 1 Y Z Y (xb hok 2 [24,25] Y Z (fun _ hK=>Kf HY Y Y ⟨Aa,Aa⟩ (Y:_=8)) (Bl (iI (c0 5)) GF hok 3 Y Z Y mH (xb hok 4 [27] Y Z (fun _ hK=>G6 Y Y) (Bm hok 5 Y Z Y (dd' 29 Y (fun cQ=>?_) fun cQ=>?_))))))
          .exact Bs hok 6 Y Z (Bs hok 7 Y Z (Bs hok 8 Y Z (Bs hok 9 Y Z (Bs hok 10 Y Z (Bs hok 11 Y Z (Bs hok 12 Y Z (Bs hok 13 Y Z (Bs hok 14 Y Z (Bs hok 15 Y Z (xb hok 16 [29,39] Y Z (fun _ hK=>HW Y Y) (GM hok Z (qk Y (by simp[bA,cb,ct,co,cQ]) Y))))))))))))
          .exact Bm hok 6 Y Z Y (Bm hok 7 Y Z Y (xb hok 8 [30,31,29] Y Z (fun _ hK=>Kf HY Y Y ⟨by omega,by omega⟩ (Y:_=8)) (Bl (iI (c0 5)) GF hok 9 Y Z Y mH (Bm hok 10 Y Z Y (Bm hok 11 Y Z Y (xb hok 12 [35,29] Y Z (fun _ hK=>Hk Y Y Y ⟨by first | omega | simp,by first | omega | simp⟩) (xb hok 13 [34,36,29] Y Z (fun _ hK=>Kf HY Y Y ⟨by omega,by omega⟩ (Y:_=9)) (Bl (iI 64) GF hok 14 Y Z Y mH (xb hok 15 [33,38,29] Y Z (fun _ hK=>Hz Y Y) (xb hok 16 [29,39] Y Z (fun _ hK=>H4 Y Y) (GM hok Z (qk Y (by simp[bA,cb,ct,co,cQ]) Y))))))))))))
         .refine Gt (wb Y h (fun cg h=>?_) fun cg h=>?_)
          .refine wS (va Y (nV (GB (Gx (Gx (GB (Gx ?_)))))));subst h
           exact yA results12 Y [] KP (⟨Y,Y⟩)
          .refine GY (GZ 1 (Gt (Gr (vm Y (xQ Y (Hk Y Y Y ⟨by first | omega | simp,by first | omega | simp⟩) (va Y (Gw (Ml (Of (Gu (wS (vm Y ?_))))))))))));refine vm Y (xQ Y (PD Y underlying59 Y) (xQ Y (G6 Y Y) (nS (GQ Y Y (jS (Gz (Gu (wk [3,4] Y [(40,.bool ((decide (c0 6<1))||(decide (65536<c0 6))))] ?_ ?_))))))))
           .refine GK Z Z (fun hok=>?_);refine Bm hok 0 Y Z Y (Bm hok 1 Y Z Y (xb hok 2 [24,25] Y Z (fun _ hK=>Kf HY Y Y ⟨Aa,Aa⟩ (Y:_=10)) (Bl (iI (c0 6)) GF hok 3 Y Z Y mH (xb hok 4 [27] Y Z (fun _ hK=>G6 Y Y) (Bm hok 5 Y Z Y (dd' 29 Y (fun dz=>?_) fun dz=>?_))))))
            .exact Bs hok 6 Y Z (Bs hok 7 Y Z (Bs hok 8 Y Z (Bs hok 9 Y Z (Bs hok 10 Y Z (Bs hok 11 Y Z (Bs hok 12 Y Z (Bs hok 13 Y Z (Bs hok 14 Y Z (Bs hok 15 Y Z (xb hok 16 [29,39] Y Z (fun _ hK=>HW Y Y) (GM hok Z (qk Y (by simp[bA,cb,ct,co,cg,dz]) Y))))))))))))
            .exact Bm hok 6 Y Z Y (Bm hok 7 Y Z Y (xb hok 8 [30,31,29] Y Z (fun _ hK=>Kf HY Y Y ⟨by omega,by omega⟩ (Y:_=10)) (Bl (iI (c0 6)) GF hok 9 Y Z Y mH (Bm hok 10 Y Z Y (Bm hok 11 Y Z Y (xb hok 12 [35,29] Y Z (fun _ hK=>Hk Y Y Y ⟨by first | omega | simp,by first | omega | simp⟩) (xb hok 13 [34,36,29] Y Z (fun _ hK=>Kf HY Y Y ⟨by omega,by omega⟩ (Y:_=11)) (Bl (iI 65536) GF hok 14 Y Z Y mH (xb hok 15 [33,38,29] Y Z (fun _ hK=>Hz Y Y) (xb hok 16 [29,39] Y Z (fun _ hK=>H4 Y Y) (GM hok Z (qk Y (by simp[bA,cb,ct,co,cg,dz]) Y))))))))))))
           .refine Gt (wb Y h (fun cX h=>?_) fun cX h=>?_)
            .refine wS (va Y (nV (GB (Gx (Gx (GB (Gx ?_)))))));subst h
             exact yA results12 Y [] KP (⟨Y,Y⟩)
            .refine GY (GZ 1 (Gt (Gr (vm Y (xQ Y (Hk Y Y Y ⟨by first | omega | simp,by first | omega | simp⟩) (va Y (Gw (Ml (Of (Gu (wS (vm Y ?_))))))))))));refine vm Y (xQ Y (PD Y underlying59 Y) (xQ Y (G6 Y Y) (nS (GW Y Y (GJ (Gs (Gs (GD (qW (va Y ?_))))))))));refine nV ?_;subst h
             exact yA results12 Y [] KP (⟨Y,Y⟩)
end Go.Proofs.YtljklmlodfbdnaaGreat
namespace Go.Proofs.YtljklmlodfbdnaaGreat
open Go Go.E Go.Proofs.Tryz
theorem SK {l0 n1 v0} (w) (dK:SL w 1 ic v0 l0) (r) (h:Mc l0 n1 (Eq r)):Con prog 117 #[v0,iI n1] w (fun v F=>∃ (u0:Value) (C0:GH),v=u0/\F=(C0++[])/\OJ 3 1 ic C0 u0 r/\Cov w [] C0):=by
 unfold Mc at h;refine ce func117 Y ntmps117 Y (wS (va Y (nR (xr Y (Ho HY VU (HD Y) Y Y (.nil _)) ?_))));rintro _ _ ⟨b5,pt,rfl,rfl⟩;refine vm Y ?_;obtain⟨d3,h⟩:=h;refine xr Y (OT.st (fun _ h=>Pull.st qK h) (Hj (l:=[]) (l':=l0) (B:=[_]) Ri Y Y (LR 0 (l:=[]) mH Y Y (fun i hi=>match i,hi with  | q+0,h=>absurd h U)) (fun w2 cC=>(dK.keep cC FR)) (fun _ _=>Y) d3 (G2 d3 D))) ?_;rintro BJ _ ⟨y2,rfl,qN,rk⟩;have lS:=Cov.trans (Cov.new pt) qN
 refine vm Y (xr Y (Ho HY VU (HD Y) Y Y (.int Y Y (.nil _))) ?_);rintro _ _ ⟨b9,yE,rfl,rfl⟩;obtain⟨el,h⟩:=h;refine xr Y (OT.st (fun _ h=>Pull.st (qC qH) h) (Hj (l:=([]++l0)) (l':=[n1]) (B:=y2) Ri Y Y rk (fun w2 cC=>(JH 1 (l:=[n1]) cC (mR mH) Y Y AJ)) (fun _ _=>Y) el (G2 el D))) ?_;rintro oo _ ⟨ee,rfl,qM,gp⟩;have dp:=Cov.trans lS qM
 refine G0 ((b9,_)::(ee++([]))) (fun _ h=>Pull.push (qC qH) h) ?_;obtain⟨eY,h⟩:=h;refine Ir Y trivial Agh Y (fun w1 br=>TF w1 (gp.sl br SG) _ (UB eY)) ?_;rintro w1 sB _ br ⟨_,j7,rfl,rfl,jO,ew⟩;refine⟨_,Mg.news (Cov.fresh ew) (.nil _),?_⟩;replace ew:=Cov.base (w0:=w) ew br.size;refine va Y (nV ?_);subst h
 exact yA results117 Y _ KP (⟨_,j7,Y,Y,jO,ew⟩)
theorem Ms {ah aa ac ai ag ad ae af ab aj ak al cI fb qn zd za zb zc v3} (w) (ci:SL w 1 ic zd ab) (bV:SL w 1 ic za aj) (bU:SL w 1 ic zb ak) (bY:SL w 5 iv zc al) (zO:SL w 1 ic v3 qn) (r) (h:T9 ah aa ac ai ag ad ae af ab aj ak al cI fb qn r):Con prog 120 #[AG 13 (cl (An ah aa ac ai (ag) ad ae af zd za zb zc)),iI cI,iI fb,v3] w (fun v F=>∃ (u0:Value) (C0:GH),v=u0/\F=(C0++[])/\OJ 45 28 iv C0 u0 r/\Cov w [] C0):=by
 unfold T9 at h;refine ce func120 Y ntmps120 Y (wS (xr Y (HA (An ah aa ac ai (ag) ad ae af zd za zb zc) Y H9) ?_));rintro _ _ ⟨b4,lw,rfl,rfl⟩;refine va Y (nR (va Y (nY (wS (va Y (nS ?_))))));refine Gz ?_;obtain⟨fp,fq,h⟩:=h;refine xL (fun s e H=>match s with | (fp,iT)=>∃ nW kv,e=[(1,iI cI),(2,iI fb),(3,v3),(4,.pointer (some ⟨b4,0,none⟩)),(9,nW),(10,iI iT)]/\H=kv++((b4,BK 13 (cl (An ah aa ac ai (ag) ad ae af zd za zb zc)) 98)::([]))/\OJ 45 28 iv kv nW fp/\Cov w [] kv) (fun(fp:LM) ex e H=>∃ lF jq,ex=.exit 0/\e=[(9,lF)]/\H=jq++((b4,BK 13 (cl (An ah aa ac ai (ag) ad ae af zd za zb zc)) 98)::([]))/\OJ 45 28 iv jq lF fp/\Cov w [] jq) fq ⟨_,[],Y,Y,OJ.nil,KV⟩ ?_ ?_
 .rintro⟨fp,iT⟩ o _ _ ⟨nW,kv,rfl,rfl,oI,jc⟩ hb;have h:NX ah ab cI fb qn fp iT o:=hb
  clear hb;unfold NX at h;refine Gu (wS (vm Y (Xf Lt Y Y (Xl (zd) HX Y Y (xQ Y (Hs Y underlying59 Y (SL.val ci)) (xQ Y (G6 Y Y) (nS (wd Y h (fun bB h=>?_) fun bB h=>?_))))))))
  .refine jS (Gz (wS (vm Y (Xf Lt Y Y (Xl (zd) HX Y Y (vm Y ?_))))));obtain⟨d3,h⟩:=h;refine xQ Y (Hy HY Y Y (fun w hw=>(ci.keep hw FR)) Y d3) (xQ Y (HN (off:=0) (u:=iI (ab[iT.toNat]!)) Y GF Y (fun w hw=>(ci.keep hw FR)) (GG d3) Y Y) ?_);obtain⟨fX,h⟩:=h;refine xc Y Aba Y (fun w1 br=>RZ w1 (zO.keep br FR) _ (Uh fX)) (xQ Y (Hh Y) (nS (wc Y h (fun cb h=>?_) fun cb h=>?_)))
   .refine GK Z Z (fun hok=>?_);refine Bm hok 0 Y Z Y (Bm hok 1 Y Z Y (Bf Lt hok 2 Y Z Y (Bl zd HX hok 3 Y Z Y (mR mH) (Bm hok 4 Y Z Y ?_))));obtain⟨eY,h⟩:=h;refine xb hok 5 [29,30] Y Z (fun _ hK=>Hy HY Y Y (fun w hw=>(ci.keep hw (fun k hk=>(hK k hk).elim (fun h=>(Fr.seg jc (Fr.cons lw Fr.nil)) k h) id))) Y eY) (xb hok 6 [31] Y Z (fun _ hK=>HN (off:=0) (u:=iI (ab[iT.toNat]!)) Y GF Y (fun w hw=>(ci.keep hw (fun k hk=>(hK k hk).elim (fun h=>(Fr.seg jc (Fr.cons lw Fr.nil)) k h) id))) (GG eY) Y Y) (Bf Kw hok 7 Y Z Y (Bl (iI ah) GF hok 8 Y Z Y (mR mH) (Bm hok 9 Y Z Y (xb hok 10 [27,32,34,35] Y Z (fun _ hK=>Ht XC Lf (.int G9 Y Y (.int Jz Y Y (.int HG Y Y (.int Hi Y Y (.nil _)))))) (GV hok 11 [(36,_)] Y Y Z (lc Y ln) Z trivial (Ho Re Lf Y Y Y (.ints Y Y (.nil _))) ?_))))));rintro _ _ ⟨ER,Fs,rfl,rfl⟩;refine⟨RA,KM,?_⟩;obtain⟨kD,h⟩:=h;refine Lh hok 5 12 [(26,_),(37,_)] Y Y Z Z (lc Y (lc Y ln)) Z trivial (OT.push (fun q_=>(ER,_)::(q_++((b4,_)::([])))) (fun _=>(qC qH)) (OT.st (fun _ h=>Pull.st (qC qH) h) (Hj (l:=fp) (l':=[(Gq (Gq (Gq (Gq (fun _=>0) 0 cI) 2 (ab[iT.toNat]!)) 3 ah) 8 fb)]) (B:=kv) TX Y Y oI (fun w2 cC=>(JH 1 (l:=[(Gq (Gq (Gq (Gq (fun _=>0) 0 cI) 2 (ab[iT.toNat]!)) 3 ah) 8 fb)]) cC (mR mH) Y Y AJ)) (fun _ _=>Y) kD (G2 kD D)))) ?_;rintro sB _ ⟨j7,rfl,Dz,jO⟩;have ew:=Cov.trans jc Dz
    refine⟨KM,?_⟩;refine Ig (H':=(ER,_)::(j7++((b4,_)::([])))) Y (Ba hok 13 Y Z Y (GM hok Z (GZ 1 (Gt (Gr (vm Y ?_))))));obtain⟨nP,h⟩:=h;exact xQ Y (Hk Y Y Y nP) (va Y (Gw (xN h ⟨sB,j7,Y,Y,jO,ew⟩)))
   .refine GY (GZ 1 (Gt (Gr (vm Y ?_))));obtain⟨jv,h⟩:=h;exact xQ Y (Hk Y Y Y jv) (va Y (Gw (xN h ⟨nW,kv,Y,Y,oI,jc⟩)))
  .exact GJ (Gs (xO h ⟨nW,kv,Y,Y,Y,oI,jc⟩))
 .rintro _ _ _ ⟨lF,jq,rfl,rfl,rfl,rl,pp⟩;replace h:SR fp r:=h;unfold SR at h;refine GD (qW (vm Y (va Y (nV ?_))));subst h
  exact yA results120 Y _ KP (⟨_,jq,Y,Y,rl,pp⟩)
theorem Wf {ah aa ac ai ag ad ae af ab aj ak al zd za zb zc} (w) (ci:SL w 1 ic zd ab) (bV:SL w 1 ic za aj) (bU:SL w 1 ic zb ak) (bY:SL w 5 iv zc al) (r) (h:WV ah aa ac ai ag ad ae af ab aj ak al r):Con prog 118 #[AG 13 (cl (An ah aa ac ai (ag) ad ae af zd za zb zc))] w (Is (AI 28 r) []):=by
 unfold WV at h;refine ce func118 Y ntmps118 Y (wS (xr Y (HA (An ah aa ac ai (ag) ad ae af zd za zb zc) Y H9) ?_));rintro _ _ ⟨b1,ko,rfl,rfl⟩;refine xr Y (H8 Lf Y) ?_;rintro _ _ ⟨b2,j5,rfl,rfl⟩;refine nR (Xf Q6 Y Y (Xi ad GF Y Y (Xf Kw Y Y (Xi ah GF Y Y (Xf NF Y Y (Xi ai GF Y Y (Xf PO Y Y (xQ Y (Nv (f:=iv ae) Y I4 (mT mH) D AJ) (Xf Vm Y Y (Xi af NA Y Y ?_))))))))));refine xQ Y (Ht XC Lf (.int G9 Y Y (.int Jz Y Y (.int HG Y Y (.int K9 Y Y (.ints Ky Y Y (.int J4 Y Y (.nil _)))))))) (xZ Y (JF Y Y Hm mH uH) (nV ?_));subst h
 exact cRa results118 Y Hm mH [] KP (⟨Y,Y⟩)
theorem Qe {ah aa ac ai ag ad ae af ab aj ak al m1 d5 zd za zb zc} (w) (ci:SL w 1 ic zd ab) (bV:SL w 1 ic za aj) (bU:SL w 1 ic zb ak) (bY:SL w 5 iv zc al) (r) (h:WX ah aa ac ai ag ad ae af ab aj ak al m1 d5 r):Con prog 128 #[AG 13 (cl (An ah aa ac ai (ag) ad ae af zd za zb zc)),AI 28 m1,iI d5] w (Is (.bool r) []):=by
 unfold WX at h;refine ce func128 Y ntmps128 Y (wS (xr Y (HA (An ah aa ac ai (ag) ad ae af zd za zb zc) Y H9) ?_));rintro _ _ ⟨b3,iU,rfl,rfl⟩;refine xr Y (He Y) ?_;rintro _ _ ⟨b4,lw,rfl,rfl⟩;refine va Y (nY (wk [] Y [(6,.bool (((decide (m1 0=d5))&&((Pf m1)))&&(decide (m1 3=ah))))] ?_ ?_))
 .refine Gr (Xf G9 Y Y (Xi (m1 0) GF Y Y (vm Y (xQ Y (GI Y Y) (vm Y (IY 11 Y (fun bB=>?_) fun bB=>?_))))))
  .refine xQ Y (GA Y Hm mH) (xc Y Ahc Y (fun w1 br=>Py w1 _ (QV)) (vt Y (vm Y (VZ 15 Y (fun bA=>?_) fun bA=>?_))))
   .exact Xf HG Y Y (Xi (m1 3) GF Y Y (Xf Kw Y Y (Xi ah GF Y Y (xQ Y (GI Y Y) (vt Y (va Y (P2 bB bA)))))))
   .exact vs Y (vs Y (vs Y (vs Y (vs Y (vf Y (va Y (P2 bB bA)))))))
  .exact vs Y (vs Y (vf Y (vm Y (vs Y (vs Y (vs Y (vs Y (vs Y (vf Y (va Y (Ma bB)))))))))))
 .refine Gt (Hl ?_);subst h
  exact yA results128 Y [] KP (⟨Y,Y⟩)
theorem UF {ah aa ac ai ag ad ae af ab aj ak al zd za zb zc} (w) (ci:SL w 1 ic zd ab) (bV:SL w 1 ic za aj) (bU:SL w 1 ic zb ak) (bY:SL w 5 iv zc al) (r) (h:ZF ah aa ac ai ag ad ae af ab aj ak al r):Con prog 121 #[AG 13 (cl (An ah aa ac ai (ag) ad ae af zd za zb zc))] w (Is (.bool r) []):=by
 unfold ZF at h;refine ce func121 Y ntmps121 Y (wS (xr Y (HA (An ah aa ac ai (ag) ad ae af zd za zb zc) Y H9) ?_));rintro _ _ ⟨b1,ko,rfl,rfl⟩;refine va Y (nY (wk [] Y [(2,.bool ((decide (aa=3))||(decide (aa=4))))] ?_ ?_))
 .refine Gr (Xf Ix Y Y (Xi aa GF Y Y (xQ Y (GI Y Y) (vm Y (IY 6 Y (fun bB=>?_) fun bB=>?_)))))
  .exact vs Y (vs Y (vs Y (vt Y (va Y (Ma bB)))))
  .exact Xf Ix Y Y (Xi aa GF Y Y (xQ Y (GI Y Y) (vf Y (va Y (Ma bB)))))
 .refine Gt (Hl ?_);subst h
  exact yA results121 Y [] KP (⟨Y,Y⟩)
theorem Aci {l0 fL eu v0} (w) (dK:SL w 3 (mv (kS [1])) v0 l0) (r) (h:Uc l0 fL eu r):Con prog 86 #[v0,iI fL,iI eu] w (fun v F=>∃ (u0:Value) (C0:GH),v=u0/\F=(C0++[])/\OJ 3 1 ic C0 u0 r/\Cov w [] C0):=by
 unfold Uc at h;refine ce func86 Y ntmps86 Y (wS (va Y (nR (va Y (nY (wS ?_))))));refine va Y (nS (Gz ?_));obtain⟨eQ,fq,h⟩:=h;refine xL (fun s e H=>match s with | (eQ,i8)=>∃ lH j3,e=[(0,v0),(1,iI fL),(2,iI eu),(7,lH),(8,iI i8)]/\H=j3++([])/\OJ 3 1 ic j3 lH eQ/\Cov w [] j3) (fun(eQ:(List Int)) ex e H=>∃ lG jG,ex=.exit 0/\e=[(7,lG)]/\H=jG++([])/\OJ 3 1 ic jG lG eQ/\Cov w [] jG) fq ⟨_,[],Y,Y,OJ.nil,KV⟩ ?_ ?_
 .rintro⟨eQ,i8⟩ o _ _ ⟨lH,j3,rfl,rfl,nw,jN⟩ hb;have h:LQ l0 fL eu eQ i8 o:=hb
  clear hb;unfold LQ at h;refine Gu (Gu (wk [0,1,2,7,8] Y [(20,.bool (((decide (i8<(l0.length:Int)))&&((Jr fL)))&&(decide (0<=eu))))] ?_ ?_))
  .refine Gr (vm Y (vm Y (xQ Y (Hs Y underlying87 Y (SL.val dK)) (xQ Y (G6 Y Y) (vm Y (IY 13 Y (fun bB=>?_) fun bB=>?_))))))
   .refine vm Y (xc Y Agk Y (fun w1 br=>V6 w1 _ (X6)) (vt Y (vm Y (VZ 17 Y (fun bA=>?_) fun bA=>?_))))
    .exact vm Y (xQ Y (Ie Y Y) (vt Y (Gw (qk Y (Ze bB bA) Y))))
    .exact vs Y (vs Y (vf Y (Gw (qk Y (Ze bB bA) Y))))
   .exact vs Y (vs Y (vf Y (vm Y (vs Y (vs Y (vf Y (Gw (qk Y (Qeb bB) Y))))))))
  .refine Gt (wb Y h (fun cx h=>?_) fun cx h=>?_)
   .refine jS (Gz (Gu ?_));obtain⟨el,eY,eX,kD,h⟩:=h;refine wk [0,1,2,7,8] Y [(46,.bool ((((nz ((l0[i8.toNat]!) 1)))&&(decide (0<(l0[i8.toNat]!) 0)))&&(decide (eu<=fL-((l0[i8.toNat]!) 2)))))] ?_ ?_
    .refine Gr (vm Y (vm Y (xQ Y (Hy OY Y Y (fun w hw=>(dK.keep hw FR)) Y (el)) (xQ Y (Nw Qs Y Y (fun w hw=>(dK.keep hw FR)) (GG (el))) (xQ Y (HN (off:=1) (u:=.bool (nz ((l0[i8.toNat]!) 1))) Y Om Y (fun w hw=>(dK.keep hw FR)) (GG (el)) Y Y) (vm Y (VZ 28 Y (fun co=>?_) fun co=>?_)))))))
     .refine vm Y (vm Y (xQ Y (Hy OY Y Y (fun w hw=>(dK.keep hw FR)) Y (eY (XP (co) cx co))) (xQ Y (Nw Mj Y Y (fun w hw=>(dK.keep hw FR)) (GG (eY (XP (co) cx co)))) (xQ Y (HN (off:=0) (u:=iI ((l0[i8.toNat]!) 0)) Y GF Y (fun w hw=>(dK.keep hw FR)) (GG (eY (XP (co) cx co))) Y Y) (xQ Y (Hz Y Y) (vt Y (vm Y (IY 36 Y (fun cQ=>?_) fun cQ=>?_))))))))
      .exact vm Y (vm Y (vm Y (xQ Y (Hy OY Y Y (fun w hw=>(dK.keep hw FR)) Y (eX (Za (dT cQ) cx co cQ))) (xQ Y (Nw Abf Y Y (fun w hw=>(dK.keep hw FR)) (GG (eX (Za (dT cQ) cx co cQ)))) (xQ Y (HN (off:=2) (u:=iI ((l0[i8.toNat]!) 2)) Y GF Y (fun w hw=>(dK.keep hw FR)) (GG (eX (Za (dT cQ) cx co cQ))) Y Y) (xQ Y (Ke Y Y Y (kD (Za (dT cQ) cx co cQ))) (vm Y (xQ Y (Ie Y Y) (vt Y (Gw (qk Y (XS cx co cQ) Y)))))))))))
      .exact vs Y (vs Y (vs Y (vs Y (vs Y (vs Y (vs Y (vs Y (vs Y (vf Y (Gw (qk Y (XS cx co cQ) Y)))))))))))
     .refine vs Y (vs Y (vs Y (vs Y (vs Y (vs Y (vf Y (vm Y (vs Y (vs Y (vs Y (vs Y (vs Y (vs Y ?_)))))))))))));exact vs Y (vs Y (vs Y (vf Y (Gw (qk Y (Ze cx co) Y)))))
    .refine Gt (wb Y h (fun cg h=>?_) fun cg h=>?_)
     .refine Gr (vm Y (vm Y (vm Y ?_)));obtain⟨dy,h⟩:=h;refine xQ Y (Hy OY Y Y (fun w hw=>(dK.keep hw FR)) Y dy) (xQ Y (Nw Mj Y Y (fun w hw=>(dK.keep hw FR)) (GG dy)) (xQ Y (HN (off:=0) (u:=iI ((l0[i8.toNat]!) 0)) Y GF Y (fun w hw=>(dK.keep hw FR)) (GG dy) Y Y) (xr Y (Ho HY VU (HD Y) Y Y (.int Y Y (.nil _))) ?_)));rintro _ _ ⟨r4,yG,rfl,rfl⟩;obtain⟨ek,h⟩:=h;refine xr Y (OT.st (fun _ h=>Pull.st (qC qH) h) (Hj (l:=eQ) (l':=[(l0[i8.toNat]!) 0]) (B:=j3) Ri Y Y nw (fun w2 cC=>(JH 1 (l:=[(l0[i8.toNat]!) 0]) cC (mR mH) Y Y AJ)) (fun _ _=>Y) ek (G2 ek D))) ?_;rintro ka _ ⟨d7,rfl,kn,ej⟩;have eA:=Cov.trans jN kn
      refine G0 ((r4,_)::(d7++([]))) (fun _ h=>Pull.push (qC qH) h) (va Y (Gw (GZ 1 (Gt (Gr (vm Y ?_))))));obtain⟨eb,h⟩:=h;exact xQ Y (Hk Y Y Y eb) (va Y (Gw (xN h ⟨ka,d7,Y,Y,ej,eA⟩)))
     .refine GY (GZ 1 (Gt (Gr (vm Y ?_))));obtain⟨gl,h⟩:=h;exact xQ Y (Hk Y Y Y gl) (va Y (Gw (xN h ⟨lH,j3,Y,Y,nw,jN⟩)))
   .exact GJ (Gs (xO h ⟨lH,j3,Y,Y,Y,nw,jN⟩))
 .rintro _ _ _ ⟨lG,jG,rfl,rfl,rfl,rm,rB⟩;replace h:NY eQ r:=h;unfold NY at h;refine GD (qW (vm Y ?_));obtain⟨gB,h⟩:=h;refine Ir Y trivial Agh Y (fun w1 br=>TF w1 (rm.sl br SG) _ (UB gB)) ?_;rintro w1 jJ _ br ⟨_,dM,rfl,rfl,d6,cG⟩;refine⟨_,Mg.news (Cov.fresh cG) (.nil _),?_⟩;replace cG:=Cov.base (w0:=w) cG br.size;refine va Y (nV ?_);subst h
  exact yA results86 Y _ KP (⟨_,dM,Y,Y,d6,cG⟩)
theorem ZA {bg ao am bc au ap ba av aw be bh bk bi aq an bd ax ar bb ay az bf bj bl zd za zb zc fW eg gy gx} (w) (ci:SL w 1 ic zd aw) (bV:SL w 1 ic za be) (bU:SL w 1 ic zb bh) (bY:SL w 5 iv zc bk) (zP:SL w 1 ic fW az) (xW:SL w 1 ic eg bf) (xV:SL w 1 ic gy bj) (xU:SL w 5 iv gx bl) (r) (h:MI bg ao am bc au ap ba av aw be bh bk bi aq an bd ax ar bb ay az bf bj bl (Eq r)):Con prog 39 #[AG 13 (cl (An bg ao am bc (au) ap ba av zd za zb zc)),AG 13 (cl (An bi aq an bd (ax) ar bb ay fW eg gy gx))] w (Is (.bool r) []):=by
 unfold MI at h;refine ce func39 Y ntmps39 Y (wS (xr Y (HA (An bg ao am bc (au) ap ba av zd za zb zc) Y H9) ?_));rintro _ _ ⟨b2,j5,rfl,rfl⟩;refine xr Y (HA (An bi aq an bd (ax) ar bb ay fW eg gy gx) Y H9) ?_;rintro _ _ ⟨b3,iU,rfl,rfl⟩;refine va Y (nY (Gu (wk [2,3] Y [(58,.bool ((((((((!(decide (bg=bi)))||(!(decide (ao=aq))))||(!(decide (am=an))))||(!(decide (bc=bd))))||(!(((au) == (ax)))))||(!(decide (ap=ar))))||(!((IJ 2 ba bb))))||(!(decide (av=ay)))))] ?_ ?_)))
 .refine Gr (Xf Kw Y Y (Xi bg GF Y Y (Xf Kw Y Y (Xi bi GF Y Y (xQ Y (Hr Y Y) (vm Y (Ub 10 Y (fun bB=>?_) fun bB=>?_)))))))
  .refine vs Y (vs Y (vs Y (vs Y (vs Y (vt Y (vm Y (vs Y (vs Y (vs Y (vs Y (vs Y (vt Y (vm Y ?_)))))))))))));refine vs Y (vs Y (vs Y (vs Y (vs Y (vt Y (vm Y (vs Y (vs Y (vs Y (vs Y (vs Y (vt Y (vm Y ?_)))))))))))));exact Ma bB
  .refine Xf Ix Y Y (Xi ao GF Y Y (Xf Ix Y Y (Xi aq GF Y Y (xQ Y (Hr Y Y) (vf Y (vm Y (Ub 17 Y (fun bA=>?_) fun bA=>?_)))))))
   .refine vs Y (vs Y (vs Y (vs Y (vs Y (vt Y (vm Y (vs Y (vs Y (vs Y (vs Y (vs Y (vt Y (vm Y ?_)))))))))))));refine vs Y (vs Y (vs Y (vs Y (vs Y (vt Y (vm Y (vs Y (vs Y (vs Y (vs Y (vs Y (vt Y (vm Y ?_)))))))))))));refine vs Y (vs Y (vs Y (vs Y (vs Y (vt Y (vm Y (vs Y (vs Y (vs Y (vs Y (vs Y (vt Y (Gw ?_)))))))))))));exact qk Y (by simp[bB,bA]) Y
   .refine Xf Vn Y Y (Xi am GF Y Y (Xf Vn Y Y (Xi an GF Y Y (xQ Y (Hr Y Y) (vf Y (vm Y (Ub 24 Y (fun cx=>?_) fun cx=>?_)))))))
    .refine vs Y (vs Y (vs Y (vs Y (vs Y (vt Y (vm Y (vs Y (vs Y (vs Y (vs Y (vs Y (vt Y (vm Y ?_)))))))))))));exact Ng bB bA cx
    .refine Xf NF Y Y (Xi bc GF Y Y (Xf NF Y Y (Xi bd GF Y Y (xQ Y (Hr Y Y) (vf Y (vm Y (Ub 31 Y (fun cb=>?_) fun cb=>?_)))))))
     .refine vs Y (vs Y (vs Y (vs Y (vs Y (vt Y (vm Y (vs Y (vs Y (vs Y (vs Y (vs Y (vt Y (vm Y ?_)))))))))))));refine vs Y (vs Y (vs Y (vs Y (vs Y (vt Y (vm Y (vs Y (vs Y (vs Y (vs Y (vs Y (vt Y (Gw ?_)))))))))))));exact qk Y (by simp[bB,bA,cx,cb]) Y
     .refine Xf L7 Y Y (Xl (.bool (au)) Om Y Y (Xf L7 Y Y (Xl (.bool (ax)) Om Y Y (xQ Y (AgM underlying4 Y Y) (vf Y (vm Y (QC 38 Y (fun dU=>?_) fun dU=>?_)))))))
      .exact VQf bB bA cx cb dU
      .refine Xf Q6 Y Y (Xi ap GF Y Y (Xf Q6 Y Y (Xi ar GF Y Y (xQ Y (Hr Y Y) (vf Y (vm Y (Ub 45 Y (fun ct=>?_) fun ct=>?_)))))))
       .refine vs Y (vs Y (vs Y (vs Y (vs Y (vt Y (vm Y (vs Y (vs Y (vs Y (vs Y (vs Y (vt Y (Gw ?_)))))))))))));exact qk Y (by simp[bB,bA,cx,cb,dU,ct]) Y
       .refine Xf PO Y Y (xQ Y (Nv (f:=iv ba) Y I4 (mT mH) D AJ) (Xf PO Y Y (xQ Y (Nv (f:=iv bb) Y I4 mH D AJ) (xQ Y (PC Ahn Y Y) (vf Y (vm Y (QC 52 Y (fun dW=>?_) fun dW=>?_)))))))
        .exact VQh bB bA cx cb dU ct dW
        .exact Xf Vm Y Y (Xi av NA Y Y (Xf Vm Y Y (Xi ay NA Y Y (xQ Y (Hr Y Y) (VQh bB bA cx cb dU ct dW)))))
 .refine Gt (wb Y h (fun co h=>?_) fun co h=>?_)
  .refine wS (va Y (nU ?_));subst h
   exact yA results39 Y [] KP (⟨Y,Y⟩)
  .refine jS ?_;obtain⟨jv,gd,dy,hU,h⟩:=h;refine wk [] Y [(4,.bool (((((JI aw az))&&((JI be bf)))&&((JI bh bj)))&&((M5 bk bl))))] ?_ ?_
   .refine Gr (Xf Lt Y Y (Xl (zd) HX Y Y (Xf Lt Y Y (Xl (fW) HX Y Y (xc Y Ag5 Y (fun w1 br=>Vh w1 (ci.keep br FR) (zP.keep br FR) _ (Xr (jv))) (vm Y (VZ 64 Y (fun dL=>?_) fun dL=>?_)))))))
    .refine Xf Q5 Y Y (Xl (za) HX Y Y (Xf Q5 Y Y (Xl (eg) HX Y Y (xc Y Ag5 Y (fun w1 br=>Vh w1 (bV.keep br FR) (xW.keep br FR) _ (Xr (gd (XP (dL) co dL)))) (vt Y (vm Y (VZ 71 Y (fun dd=>?_) fun dd=>?_)))))))
     .refine Xf Qr Y Y (Xl (zb) HX Y Y (Xf Qr Y Y (Xl (gy) HX Y Y (xc Y Ag5 Y (fun w1 br=>Vh w1 (bU.keep br FR) (xV.keep br FR) _ (Xr (dy (Za (dd) co dL dd)))) (vt Y (vm Y (VZ 78 Y (fun eM=>?_) fun eM=>?_)))))))
      .exact Xf OU Y Y (Xl (zc) Sv Y Y (Xf OU Y Y (Xl (gx) Sv Y Y (xc Y Ajc Y (fun w1 br=>Z6 w1 (bY.keep br FR) (xU.keep br FR) _ (Acz (hU (Qxe (eM) co dL dd eM)))) (vt Y (va Y (V2 co dL dd eM)))))))
      .exact vs Y (vs Y (vs Y (vs Y (vs Y (vf Y (va Y (V2 co dL dd eM)))))))
     .refine vs Y (vs Y (vs Y (vs Y (vs Y (vf Y (vm Y (vs Y (vs Y (vs Y (vs Y (vs Y (vf Y (va Y ?_)))))))))))));exact Ng co dL dd
    .refine vs Y (vs Y (vs Y (vs Y (vs Y (vf Y (vm Y (vs Y (vs Y (vs Y (vs Y (vs Y (vf Y (vm Y ?_)))))))))))));exact vs Y (vs Y (vs Y (vs Y (vs Y (vf Y (va Y (P2 co dL)))))))
   .refine Gt (Hl ?_);subst h
    exact yA results39 Y [] KP (⟨Y,Y⟩)
end Go.Proofs.YtljklmlodfbdnaaGreat
namespace Go.Proofs.YtljklmlodfbdnaaGreat
open Go Go.E Go.Proofs.Tryz
theorem Ns {al aa ab ah ae ac ag af ad ai aj ak er bR A zi zh zf zg} (w) (zd:OJ 3 1 ic A zi ad) (zc:OJ 3 1 ic A zh ai) (zb:OJ 3 1 ic A zf aj) (za:OJ 104 5 iv A zg ak) (hC:Has w (cat [A])) (r) (h:JO al aa ab ah ae ac ag af ad ai aj ak er bR (Eq r)):Con prog 119 #[AG 13 (cl (An al aa ab ah (ae) ac ag af zi zh zf zg)),iI er,iI bR] w (IF fun v Ls=>Cov w (cat [A]) (cat Ls)/\∃ (dD cB cA cz u1:Value) (CA C1:GH),v=.tuple #[AG 13 (cl (An r.1.1 r.1.2.1 r.1.2.2.1 r.1.2.2.2.1 (r.1.2.2.2.2.1) r.1.2.2.2.2.2.1 r.1.2.2.2.2.2.2.1 r.1.2.2.2.2.2.2.2.1 dD cB cA cz)),u1,iI r.2.2]/\Ls=[CA,C1]/\OJ 3 1 ic CA dD r.1.2.2.2.2.2.2.2.2.1/\OJ 3 1 ic CA cB r.1.2.2.2.2.2.2.2.2.2.1/\OJ 3 1 ic CA cA r.1.2.2.2.2.2.2.2.2.2.2.1/\OJ 104 5 iv CA cz r.1.2.2.2.2.2.2.2.2.2.2.2/\Sub A CA/\Cov w A CA/\OJ 45 28 iv C1 u1 r.2.1/\Cov w [] C1):=by
 unfold JO at h;refine ce func119 Y ntmps119 Y (Ni hC (A++([])) Y (wS (xr Y (HA (An al aa ab ah (ae) ac ag af zi zh zf zg) Y H9) ?_)));rintro _ _ ⟨b3,iU,rfl,rfl⟩;refine xr Y (G1 Ao LH H9) ?_;rintro _ _ ⟨b6,og,rfl,rfl⟩;refine va Y (va Y (nR (vm Y (Xf Ix Y Y (xZ Y (Ha Y Y GF Y (mT mH) Y (pT pH) (uT uH)) (nR (vm Y ?_)))))));refine Xf Vn Y Y (xZ Y (Ha Y Y GF Y (mT mH) Y (pT (pT pH)) (uT uH)) (nR (Xf L7 Y Y (xZ Y (Ha Y Y Om Y (mT mH) Y (pT (pT (pT (pT pH)))) (uT uH)) (nY (GK Z Z (fun hok=>?_)))))));refine Bw Hc hok 0 Y Z Y (mT mH) (Bw Hc hok 1 Y Z Y (mT mH) (Bm hok 2 Y Z Y ?_));obtain⟨gm,h⟩:=h;refine xb hok 3 [16] Y Z (fun _ hK=>Ke Y Y Y gm) ?_;obtain⟨d3,h⟩:=h;refine GV hok 4 [(15,_),(17,_)] Y Y Z (lc Y (lc Y ln)) Z trivial (OT.st (fun _ h=>h) (GC (Cs:=[]) (Rs:=[[(b6,_)],[(b3,_)],A]) Wo Y (fun w1 br=>aF ((fun(br:St w ((b6,_)::((b3,_)::(A++([])))) w1)=>Ms w1 (zd.sl br SG) (zc.sl br SG) (zb.sl br SG) (za.sl br SG) SL.nil _ (Qv d3)) br)) (by exact fun _ _ _ h=>h.1))) ?_;rintro oo _ ⟨w1,_,rfl,hle,-,_,ee,rfl,rfl,gp,dp⟩;replace dp:=Cov.base (w0:=w) dp hle;refine Iv (H':=ee++((b6,_)::((b3,_)::(A++([]))))) Y ?_;refine⟨RA,KM,?_⟩;refine HF hok 2 5 [(6,_),(14,_)] Y Y Z Z (lc Y (lc Y ln)) Z trivial (GS Y Y Hc Y ON (mR mH) (Upd.seg uH)) ?_;rintro _ _ ⟨rfl,rfl⟩;refine⟨KM,?_⟩;refine Ba hok 6 Y Z Y (Ba hok 7 Y Z Y (GM hok Z (Gt (Hl ?_))));subst h
 exact O5 results119 Y Hc (mR mH) Y Y (cat [cat [A],ee]) PK (⟨_,Y,KV,_,_,_,_,_,_,_,Y,Y,(zd.mono SB),(zc.mono SB),(zb.mono SB),(za.mono SB),(Sub.cat (Sub.refl _) []),KV,gp,dp⟩)
theorem Adt {al aa ab ah ae ac ag af ad ai aj ak bE d4 m3 A zi zh zf zg} (w) (zd:OJ 3 1 ic A zi ad) (zc:OJ 3 1 ic A zh ai) (zb:OJ 3 1 ic A zf aj) (za:OJ 104 5 iv A zg ak) (hC:Has w (cat [A])) (r) (h:Pz al aa ab ah ae ac ag af ad ai aj ak bE d4 m3 (Eq r)):Con prog 74 #[AG 13 (cl (An al aa ab ah (ae) ac ag af zi zh zf zg)),iI bE,AI 2 d4,iI m3] w (IF fun v Ls=>Cov w (cat [A]) (cat Ls)/\∃ (dD cB cA cz u1:Value) (CA C1:GH),v=.tuple #[AG 13 (cl (An r.1.1 r.1.2.1 r.1.2.2.1 r.1.2.2.2.1 (r.1.2.2.2.2.1) r.1.2.2.2.2.2.1 r.1.2.2.2.2.2.2.1 r.1.2.2.2.2.2.2.2.1 dD cB cA cz)),u1,iI r.2.2]/\Ls=[CA,C1]/\OJ 3 1 ic CA dD r.1.2.2.2.2.2.2.2.2.1/\OJ 3 1 ic CA cB r.1.2.2.2.2.2.2.2.2.2.1/\OJ 3 1 ic CA cA r.1.2.2.2.2.2.2.2.2.2.2.1/\OJ 104 5 iv CA cz r.1.2.2.2.2.2.2.2.2.2.2.2/\Sub A CA/\Cov w A CA/\OJ 45 28 iv C1 u1 r.2.1/\Cov w [] C1):=by
 unfold Pz at h;refine ce func74 Y ntmps74 Y (Ni hC (A++([])) Y (wS (xr Y (HA (An al aa ab ah (ae) ac ag af zi zh zf zg) Y H9) ?_)));rintro _ _ ⟨b4,lw,rfl,rfl⟩;refine xr Y (He Y) ?_;rintro _ _ ⟨b6,og,rfl,rfl⟩;refine xr Y (G1 Ao LH H9) ?_;rintro _ _ ⟨b8,ws,rfl,rfl⟩;refine va Y (va Y (nY (Gu (wk [1,3,4,6,8] Y [(29,.bool (((((decide (bE<1))||(decide (64<bE)))||(!((Iy d4))))||(decide (m3<1)))||(decide (4<m3))))] ?_ ?_))))
 .refine Gr (vm Y (xQ Y (G6 Y Y) (vm Y (IY 13 Y (fun bB=>?_) fun bB=>?_))))
  .exact Ma bB
  .refine vm Y (xQ Y (Hz Y Y) (vf Y (vm Y (IY 17 Y (fun bA=>?_) fun bA=>?_))))
   .exact P2 bB bA
   .refine xQ Y (GA Y I4 (mT mH)) (xc Y AfC Y (fun w1 br=>Nr w1 _ (Oz)) (xQ Y (Hh Y) (vf Y (vm Y (QC 22 Y (fun cx=>?_) fun cx=>?_)))))
    .exact Ng bB bA cx
    .refine vm Y (xQ Y (G6 Y Y) (vf Y (vm Y (IY 26 Y (fun cb=>?_) fun cb=>?_))))
     .exact V2 bB bA cx cb
     .exact vm Y (xQ Y (Hz Y Y) (V2 bB bA cx cb))
 .refine Gt (wb Y h (fun dU h=>?_) fun dU h=>?_)
  .refine wS (xQ Y (GA Y Hc (mT (mT mH))) (xZ Y (GS Y Y Hc Y ON mH uH) (va Y (va Y (nU ?_)))));subst h
   exact O5 results74 Y Hc mH Y Y (cat [cat [A],[]]) PK (⟨_,Y,KV,_,_,_,_,_,_,_,Y,Y,(zd.mono SB),(zc.mono SB),(zb.mono SB),(za.mono SB),(Sub.cat (Sub.refl _) []),KV,OJ.nil,Cov.refl _⟩)
  .refine jS (wS (Xf Ix Y Y (Xi aa GF Y Y (xQ Y (Hr Y Y) (nS (wn Y h (fun ct h=>?_) fun ct h=>?_))))))
   .refine wS (xQ Y (GA Y Hc (mT (mT mH))) (xZ Y (GS Y Y Hc Y ON mH uH) (va Y (va Y (nU ?_)))));subst h
    exact O5 results74 Y Hc mH Y Y (cat [cat [A],[]]) PK (⟨_,Y,KV,_,_,_,_,_,_,_,Y,Y,(zd.mono SB),(zc.mono SB),(zb.mono SB),(za.mono SB),(Sub.cat (Sub.refl _) []),KV,OJ.nil,Cov.refl _⟩)
   .refine jS (wS (Xf L7 Y Y (Xl (.bool (ae)) Om Y Y (nS (wb Y h (fun dW h=>?_) fun dW h=>?_)))))
    .refine wS (xQ Y (GA Y Hc (mT (mT mH))) (xZ Y (GS Y Y Hc Y ON mH uH) (va Y (va Y (nU ?_)))));subst h
     exact O5 results74 Y Hc mH Y Y (cat [cat [A],[]]) PK (⟨_,Y,KV,_,_,_,_,_,_,_,Y,Y,(zd.mono SB),(zc.mono SB),(zb.mono SB),(za.mono SB),(Sub.cat (Sub.refl _) []),KV,OJ.nil,Cov.refl _⟩)
    .refine jS (wS (Xf NF Y Y (Xi ah GF Y Y (xQ Y (Ie Y Y) (nS (wd Y h (fun co h=>?_) fun co h=>?_))))))
     .refine wS (xQ Y (GA Y Hc (mT (mT mH))) (xZ Y (GS Y Y Hc Y ON mH uH) (va Y (va Y (nU ?_)))));subst h
      exact O5 results74 Y Hc mH Y Y (cat [cat [A],[]]) PK (⟨_,Y,KV,_,_,_,_,_,_,_,Y,Y,(zd.mono SB),(zc.mono SB),(zb.mono SB),(za.mono SB),(Sub.cat (Sub.refl _) []),KV,OJ.nil,Cov.refl _⟩)
     .refine jW (Xf NF Y Y (Xi ah GF Y Y ?_));obtain⟨jv,h⟩:=h;refine xQ Y (Hk Y Y Y jv) (Xf NF Y Y (xZ Y (Ha Y Y GF Y (mT (mT mH)) Y (pT (pT (pT pH))) (uT (uT uH))) (nR (Xf L7 Y Y (xZ Y (Ha Y Y Om Y (mT (mT mH)) Y (pT (pT (pT (pT pH)))) (uT (uT uH))) (nR (vm Y ?_)))))));refine Xf Q6 Y Y (xZ Y (Ha Y Y GF Y (mT (mT mH)) Y (pT (pT (pT (pT (pT pH))))) (uT (uT uH))) (nR (xQ Y (GA Y I4 (mT mH)) (Xf PO Y Y (xZ Y (AdE (l':=(An al aa ab (ah+1) true bE d4 af zi zh zf zg)) Y Y I4 (fun _ _=>Y) (mT (mT mH)) D H9 (uT (uT uH))) (nR (vm Y ?_)))))));refine Xf Vm Y Y (xZ Y (Ha Y Y NA Y (mT (mT mH)) Y (pT (pT (pT (pT (pT (pT (pT (pT pH)))))))) (uT (uT uH))) (nR (Xf Lt Y Y (Xl (zi) HX Y Y (vm Y ?_)))));obtain⟨gd,h⟩:=h;refine Ir Y trivial Aej Y (fun w1 br=>SK w1 (zd.sl br SG) _ (Uw gd)) ?_;rintro w1 nT _ br ⟨_,fI,rfl,rfl,eO,eB⟩;refine⟨_,Mg.news (Cov.fresh eB) (.nil _),?_⟩;replace eB:=Cov.base (w0:=w) eB br.size;refine Xf Lt Y Y (xZ Y (Ha Y Y HX (GL (OJ.val eO)) (mR (mT (mT mH))) Y (pT (pT (pT (pT (pT (pT (pT (pT (pT pH))))))))) (Upd.seg (uT (uT uH)))) (nY (GK Z Z (fun hok=>?_))));refine Bw Hc hok 0 Y Z Y (mR (mT (mT mH))) (Bw Hc hok 1 Y Z Y (mR (mT (mT mH))) (NN hok 2 [59] (fI++(A++([]))) (Md SG (Md SG Nd)) Y Z (fun _ hy hK=>JW Agj Y (fun w1 br=>Wf w1 (eO.sl br (SH hy)) (zc.sl br (SH hy)) (zb.sl br (SH hy)) (za.sl br (SH hy)) _ (Yi))) (Si hok 3 4 [(60,_)] [(8,_),(58,_)] Y Y Y Y Z (lc Y ln) (lc Y (lc Y ln)) Z Z trivial trivial (Ho Re Lf Y Y Y (.ints Y Y (.nil _))) (GS Y Y Hc Y ON (mR mH) (Upd.seg uH)) ?_ ?_)))
      .rintro _ _ ⟨DS,DG,rfl,rfl⟩;refine⟨RA,KM,?_⟩;refine LI hok 4 [(8,_),(58,_)] Y Y Z (lc Y (lc Y ln)) Z trivial (GS Y Y Hc Y ON (mT (mR mH)) (uT (Upd.seg uH))) ?_;rintro _ _ ⟨rfl,rfl⟩;refine⟨RA,KM,?_⟩;refine Ba hok 5 Y Z Y (Ba hok 6 Y Z Y (GM hok Z (Gt (Hl ?_))));subst h
       exact O5 results74 Y Hc (mT (mR mH)) Y Y (cat [cat [A,fI],[(DS,_)]]) PK (⟨_,Y,KV,_,_,_,_,_,_,_,Y,Y,(eO.mono SB),(zc.mono SB),(zb.mono SB),(za.mono SB),(Sub.cat (Sub.refl _) [fI]),KV,(LR 1 (l:=[(JT al aa ab (ah+1) true bE d4 m3 (Hw ad bE) ai aj ak)]) mH Y Y AJ),KV⟩)
      .rintro _ _ ⟨rfl,rfl⟩;refine⟨RA,KM,?_⟩;refine GV hok 3 [(60,_)] Y Y Z (lc Y ln) Z trivial (Ho Re Lf Y Y Y (.ints Y Y (.nil _))) ?_;rintro _ _ ⟨DS,DG,rfl,rfl⟩;refine⟨RA,KM,?_⟩;refine Ba hok 5 Y Z Y (Ba hok 6 Y Z Y (GM hok Z (Gt (Hl ?_))));subst h
       exact O5 results74 Y Hc (mT (mR mH)) Y Y (cat [cat [A,fI],[(DS,_)]]) PK (⟨_,Y,KV,_,_,_,_,_,_,_,Y,Y,(eO.mono SB),(zc.mono SB),(zb.mono SB),(za.mono SB),(Sub.cat (Sub.refl _) [fI]),KV,(LR 1 (l:=[(JT al aa ab (ah+1) true bE d4 m3 (Hw ad bE) ai aj ak)]) mH Y Y AJ),KV⟩)
theorem VY {al aa ab ah ae ac ag af ad ai aj ak m1 A zi zh zf zg} (w) (zd:OJ 3 1 ic A zi ad) (zc:OJ 3 1 ic A zh ai) (zb:OJ 3 1 ic A zf aj) (za:OJ 104 5 iv A zg ak) (hC:Has w (cat [A])) (r) (h:JB al aa ab ah ae ac ag af ad ai aj ak m1 (Eq r)):Con prog 82 #[AG 13 (cl (An al aa ab ah (ae) ac ag af zi zh zf zg)),AI 28 m1] w (IF fun v Ls=>Cov w (cat [A]) (cat Ls)/\∃ (dD cB cA cz:Value) (CA:GH),v=.tuple #[AG 13 (cl (An r.1.1 r.1.2.1 r.1.2.2.1 r.1.2.2.2.1 (r.1.2.2.2.2.1) r.1.2.2.2.2.2.1 r.1.2.2.2.2.2.2.1 r.1.2.2.2.2.2.2.2.1 dD cB cA cz)),iI r.2]/\Ls=[CA]/\OJ 3 1 ic CA dD r.1.2.2.2.2.2.2.2.2.1/\OJ 3 1 ic CA cB r.1.2.2.2.2.2.2.2.2.2.1/\OJ 3 1 ic CA cA r.1.2.2.2.2.2.2.2.2.2.2.1/\OJ 104 5 iv CA cz r.1.2.2.2.2.2.2.2.2.2.2.2/\Sub A CA/\Cov w A CA):=by
 unfold JB at h;refine ce func82 Y ntmps82 Y (Ni hC (A++([])) Y (wS (xr Y (HA (An al aa ab ah (ae) ac ag af zi zh zf zg) Y H9) ?_)));rintro _ _ ⟨b2,j5,rfl,rfl⟩;refine xr Y (He Y) ?_;rintro _ _ ⟨b3,iU,rfl,rfl⟩;refine xr Y (G1 Ao LH H9) ?_;rintro _ _ ⟨b4,lw,rfl,rfl⟩;refine va Y (nY (Gu (wk [2,3,4] Y [(15,.bool ((!((JU al aa ab ah ae ac ag af ad ai aj ak m1 2)))&&(!((JU al aa ab ah ae ac ag af ad ai aj ak m1 3)))))] ?_ ?_)))
 .refine Gr (xQ Y (GA Y Hc (mT (mT mH))) (xQ Y (GA Y Hm (mT mH)) (xc Y Abb Y (fun w1 br=>Qe w1 (zd.sl br SG) (zc.sl br SG) (zb.sl br SG) (za.sl br SG) _ (RN)) (xQ Y (Hh Y) (vm Y (QC 10 Y (fun bB=>?_) fun bB=>?_))))))
  .exact xQ Y (GA Y Hc (mT (mT mH))) (xQ Y (GA Y Hm (mT mH)) (xc Y Abb Y (fun w1 br=>Qe w1 (zd.sl br SG) (zc.sl br SG) (zb.sl br SG) (za.sl br SG) _ (RN)) (xQ Y (Hh Y) (Ma bB))))
  .exact Ma bB
 .refine Gt (wb Y h (fun bA h=>?_) fun bA h=>?_)
  .refine wS (xQ Y (GA Y Hc (mT (mT mH))) (xZ Y (GS Y Y Hc Y ON mH uH) (va Y (nU ?_))));subst h
   exact VV results82 Y Hc mH Y (cat [cat [A]]) PK (⟨_,Y,KV,_,_,_,_,_,Y,Y,(zd.mono SB),(zc.mono SB),(zb.mono SB),(za.mono SB),(Sub.cat (Sub.refl _) []),KV⟩)
  .refine jS (wS (Xf Ix Y Y (Xi aa GF Y Y (xQ Y (Hr Y Y) (nS (wn Y h (fun cx h=>?_) fun cx h=>?_))))))
   .refine wS (xQ Y (GA Y Hc (mT (mT mH))) (xZ Y (GS Y Y Hc Y ON mH uH) (va Y (nU ?_))));subst h
    exact VV results82 Y Hc mH Y (cat [cat [A]]) PK (⟨_,Y,KV,_,_,_,_,_,Y,Y,(zd.mono SB),(zc.mono SB),(zb.mono SB),(za.mono SB),(Sub.cat (Sub.refl _) []),KV⟩)
   .refine jS (Gu (wk [2,3,4] Y [(49,.bool ((((!(ae))||(!(decide (ah=m1 4))))||(!(decide (ac=m1 1))))||((decide (m1 0=2))&&(!((IJ 2 ag (fun i=>m1 (5+i))))))))] ?_ ?_))
    .refine Gr (Xf L7 Y Y (Xl (.bool (ae)) Om Y Y (xQ Y (Hh Y) (vm Y (QC 24 Y (fun cb=>?_) fun cb=>?_)))))
     .exact Ng bA cx cb
     .refine Xf NF Y Y (Xi ah GF Y Y (Xf K9 Y Y (Xi (m1 4) GF Y Y (xQ Y (Hr Y Y) (vf Y (vm Y (Ub 31 Y (fun dU=>?_) fun dU=>?_)))))))
      .exact V2 bA cx cb dU
      .refine Xf Q6 Y Y (Xi ac GF Y Y (Xf IE Y Y (Xi (m1 1) GF Y Y (xQ Y (Hr Y Y) (vf Y (vm Y (Ub 38 Y (fun ct=>?_) fun ct=>?_)))))))
       .exact VQf bA cx cb dU ct
       .refine Xf G9 Y Y (Xi (m1 0) GF Y Y (xQ Y (GI Y Y) (vm Y (IY 42 Y (fun dW=>?_) fun dW=>?_))))
        .exact Xf PO Y Y (xQ Y (Nv (f:=iv ag) Y I4 (mT (mT mH)) D AJ) (Xf Ky Y Y (xQ Y (Jx Y I4 (mT mH) U (fun _ _=>Y)) (xQ Y (PC Ahn Y Y) (VQg bA cx cb dU ct dW)))))
        .exact VQg bA cx cb dU ct dW
    .refine Gt (wb Y h (fun co h=>?_) fun co h=>?_)
     .refine wS (xQ Y (GA Y Hc (mT (mT mH))) (xZ Y (GS Y Y Hc Y ON mH uH) (va Y (nU ?_))));subst h
      exact VV results82 Y Hc mH Y (cat [cat [A]]) PK (⟨_,Y,KV,_,_,_,_,_,Y,Y,(zd.mono SB),(zc.mono SB),(zb.mono SB),(za.mono SB),(Sub.cat (Sub.refl _) []),KV⟩)
     .refine jW (Xf L7 Y Y (xZ Y (Ha Y Y Om Y (mT (mT mH)) Y (pT (pT (pT (pT pH)))) (uT (uT uH))) (nY (wS (Xf G9 Y Y (Xi (m1 0) GF Y Y (xQ Y (GI Y Y) ?_)))))));refine nS (wd Y h (fun cQ h=>?_) fun cQ h=>?_)
      .have hk:=h.2
       replace h:=h.1;refine WF (fun e H=>∃ xB su,e=[(2,.pointer (some ⟨b2,0,none⟩)),(4,.pointer (some ⟨b4,0,none⟩))]/\H=su++((b4,BK 13 (cl Ao) 98)::((b2,BK 13 (cl (An al aa ab ah false ac ag af zi zh zf xB)) 98)::(A++([]))))/\Cov w [] su/\OJ 104 5 iv su xB (([]++ak)++[(Gq (GX (Gq (Gq (fun _=>0) 0 (m1 3)) 1 (m1 4)) 2 2 (fun i=>m1 (5+i))) 4 (m1 7))])) ?_ ?_
       .refine GK Z Z (fun hok=>?_);refine Bf OU hok 1 Y Z Y (Bl zg Sv hok 2 Y Z Y (mT (mT mH)) (Bf HG hok 4 Y Z Y (Bl (iI (m1 3)) GF hok 5 Y Z Y (mT mH) (Bf K9 hok 6 Y Z Y (Bl (iI (m1 4)) GF hok 7 Y Z Y (mT mH) (Bf Ky hok 8 Y Z Y (NN hok 9 [63] ((b3,_)::([])) (rsC (mT mH) Nd) Y Z (fun _ hy hK=>Jx Y I4 (hy _ mH) U (fun _ _=>Y)) (Bf J4 hok 10 Y Z Y (Bl (iI (m1 7)) NA hok 11 Y Z Y (mT mH) (xb hok 12 [60,62,64,66] Y Z (fun _ hK=>Ht Ago Ro (.int Abk Y Y (.int Abj Y Y (.ints Abi Y Y (.int Abh Y Y (.nil _)))))) (Pg hok 0 13 [] [(67,_)] Y Y Y Y Z ln (lc Y ln) Z Z trivial trivial (Ho XG Ro Y Y Y (.nil _)) (Ho XG Ro Y Y Y (.ints Y Y (.nil _))) ?_ ?_)))))))))))
        .rintro _ _ ⟨F5,wF,rfl,rfl⟩;refine⟨RA,KM,?_⟩;obtain⟨ek,h⟩:=h;refine Pg hok 3 13 [(55,_),(57,_)] [(67,_)] Y Y Y Y Z (lc Y (lc Y ln)) (lc Y ln) Z Z trivial trivial (OT.st (fun _ h=>Pull.st qK h) (Hj (l:=[]) (l':=ak) (B:=[_]) Y6 Y Y (LR 0 (l:=[]) mH Y Y (fun i hi=>match i,hi with  | q+0,h=>absurd h U)) (fun w2 cC=>(za.sl cC SG)) (fun _ _=>Y) ek (G2 ek D))) (Ho XG Ro Y Y Y (.ints Y Y (.nil _))) ?_ ?_
         .rintro ka _ ⟨d7,rfl,kn,ej⟩;have zj:=Cov.trans (Cov.new wF) kn
          refine⟨RA,KM,?_⟩;refine GV hok 13 [(67,_)] Y Y Z (lc Y ln) Z trivial (Ho XG Ro Y Y Y (.ints Y Y (.nil _))) ?_;rintro _ _ ⟨pL,rj,rfl,rfl⟩;refine⟨RA,KM,?_⟩;obtain⟨gl,h⟩:=h;refine Lh hok 3 14 [(58,_),(68,_)] Y Y Z Z (lc Y (lc Y ln)) Z trivial (OT.push (fun q_=>(pL,_)::(q_++((b4,_)::((b3,_)::((b2,_)::(A++([]))))))) (fun _=>(qC qH)) (OT.st (fun _ h=>Pull.st (qC qH) h) (Hj (l:=([]++ak)) (l':=[(Gq (GX (Gq (Gq (fun _=>0) 0 (m1 3)) 1 (m1 4)) 2 2 (fun i=>m1 (5+i))) 4 (m1 7))]) (B:=d7) Y6 Y Y ej (fun w2 cC=>(JH 1 (l:=[(Gq (GX (Gq (Gq (fun _=>0) 0 (m1 3)) 1 (m1 4)) 2 2 (fun i=>m1 (5+i))) 4 (m1 7))]) cC (mR mH) Y Y AJ)) (fun _ _=>Y) gl (G2 gl D)))) ?_;rintro sb _ ⟨j0,rfl,Ay,iP⟩;have dY:=Cov.trans zj Ay
          refine⟨KM,?_⟩;refine Ig (H':=(pL,_)::(j0++((b4,_)::((b3,_)::((b2,_)::(A++([]))))))) Y (Bf OU hok 15 Y Z Y (HF hok 0 16 [(70,_),(69,_)] Y Y Z Z (lc Y (lc Y ln)) Z trivial (Ha Y Y Sv (GL (OJ.val iP)) (mT (mR (mT (mT mH)))) Y (pT (pT (pT (pT (pT (pT (pT (pT (pT (pT (pT (pT pH)))))))))))) (uT (Upd.seg (uT (uT uH))))) ?_));rintro _ _ ⟨rfl,rfl⟩;refine⟨KM,?_⟩;exact GM hok Z (Nh (e':=[(2,.pointer (some ⟨b2,0,none⟩)),(4,.pointer (some ⟨b4,0,none⟩))]) (j0++((b4,_)::((b2,_)::(A++([]))))) (sl Y) KP ⟨sb,j0,Y,Y,dY,iP⟩)
         .rintro _ _ ⟨pL,rj,rfl,rfl⟩;refine⟨RA,KM,?_⟩;refine GV hok 3 [(55,_),(57,_)] Y Y Z (lc Y (lc Y ln)) Z trivial (OT.push (fun q_=>(pL,_)::(q_++((b4,_)::((b3,_)::((b2,_)::(A++([]))))))) (fun _=>(qC qH)) (OT.st (fun _ h=>Pull.st (qC qK) h) (Hj (l:=[]) (l':=ak) (B:=[_]) Y6 Y Y (LR 0 (l:=[]) mH Y Y (fun i hi=>match i,hi with  | q+0,h=>absurd h U)) (fun w2 cC=>(za.sl cC SG)) (fun _ _=>Y) ek (G2 ek D)))) ?_;rintro ly _ ⟨gg,rfl,pZ,fm⟩;have dX:=Cov.trans (Cov.new wF) pZ
          refine⟨RA,KM,?_⟩;refine Ig (H':=(pL,_)::(gg++((b4,_)::((b3,_)::((b2,_)::(A++([]))))))) Y ?_;obtain⟨gc,h⟩:=h;refine Lh hok 3 14 [(58,_),(68,_)] Y Y Z Z (lc Y (lc Y ln)) Z trivial (OT.push (fun q_=>(pL,_)::(q_++((b4,_)::((b3,_)::((b2,_)::(A++([]))))))) (fun _=>(qC qH)) (OT.st (fun _ h=>Pull.st (qC qH) h) (Hj (l:=([]++ak)) (l':=[(Gq (GX (Gq (Gq (fun _=>0) 0 (m1 3)) 1 (m1 4)) 2 2 (fun i=>m1 (5+i))) 4 (m1 7))]) (B:=gg) Y6 Y Y fm (fun w2 cC=>(JH 1 (l:=[(Gq (GX (Gq (Gq (fun _=>0) 0 (m1 3)) 1 (m1 4)) 2 2 (fun i=>m1 (5+i))) 4 (m1 7))]) cC (mR mH) Y Y AJ)) (fun _ _=>Y) gc (G2 gc D)))) ?_;rintro jJ _ ⟨dM,rfl,tm,d6⟩;have cG:=Cov.trans dX tm
          refine⟨KM,?_⟩;refine Ig (H':=(pL,_)::(dM++((b4,_)::((b3,_)::((b2,_)::(A++([]))))))) Y (Bf OU hok 15 Y Z Y (HF hok 0 16 [(70,_),(69,_)] Y Y Z Z (lc Y (lc Y ln)) Z trivial (Ha Y Y Sv (GL (OJ.val d6)) (mT (mR (mT (mT mH)))) Y (pT (pT (pT (pT (pT (pT (pT (pT (pT (pT (pT (pT pH)))))))))))) (uT (Upd.seg (uT (uT uH))))) ?_));rintro _ _ ⟨rfl,rfl⟩;refine⟨KM,?_⟩;exact GM hok Z (Nh (e':=[(2,.pointer (some ⟨b2,0,none⟩)),(4,.pointer (some ⟨b4,0,none⟩))]) (dM++((b4,_)::((b2,_)::(A++([]))))) (sl Y) KP ⟨jJ,dM,Y,Y,cG,d6⟩)
        .rintro _ _ ⟨pL,rj,rfl,rfl⟩;refine⟨RA,KM,?_⟩;refine GV hok 0 [] Y Y Z ln Z trivial (Ho XG Ro Y Y Y (.nil _)) ?_;rintro _ _ ⟨F5,wF,rfl,rfl⟩;refine⟨RA,KM,?_⟩;obtain⟨gY,h⟩:=h;refine GV hok 3 [(55,_),(57,_)] Y Y Z (lc Y (lc Y ln)) Z trivial (OT.st (fun _ h=>Pull.st qK h) (Hj (l:=[]) (l':=ak) (B:=[_]) Y6 Y Y (LR 0 (l:=[]) mH Y Y (fun i hi=>match i,hi with  | q+0,h=>absurd h U)) (fun w2 cC=>(za.sl cC SG)) (fun _ _=>Y) gY (G2 gY D))) ?_;rintro jH _ ⟨ef,rfl,km,dV⟩;have cO:=Cov.trans (Cov.new wF) km
         refine⟨RA,KM,?_⟩;obtain⟨gA,h⟩:=h;refine Lh hok 3 14 [(58,_),(68,_)] Y Y Z Z (lc Y (lc Y ln)) Z trivial (OT.st (fun _ h=>Pull.st qH h) (Hj (l:=([]++ak)) (l':=[(Gq (GX (Gq (Gq (fun _=>0) 0 (m1 3)) 1 (m1 4)) 2 2 (fun i=>m1 (5+i))) 4 (m1 7))]) (B:=ef) Y6 Y Y dV (fun w2 cC=>(JH 1 (l:=[(Gq (GX (Gq (Gq (fun _=>0) 0 (m1 3)) 1 (m1 4)) 2 2 (fun i=>m1 (5+i))) 4 (m1 7))]) cC (mR mH) Y Y AJ)) (fun _ _=>Y) gA (G2 gA D))) ?_;rintro kw _ ⟨gq,rfl,pX,fJ⟩;have df:=Cov.trans cO pX
         refine⟨KM,?_⟩;refine Bf OU hok 15 Y Z Y (HF hok 0 16 [(70,_),(69,_)] Y Y Z Z (lc Y (lc Y ln)) Z trivial (Ha Y Y Sv (GL (OJ.val fJ)) (mR (mT (mT (mT mH)))) Y (pT (pT (pT (pT (pT (pT (pT (pT (pT (pT (pT (pT pH)))))))))))) (Upd.seg (uT (uT (uT uH))))) ?_);rintro _ _ ⟨rfl,rfl⟩;refine⟨KM,?_⟩;exact GM hok Z (Nh (e':=[(2,.pointer (some ⟨b2,0,none⟩)),(4,.pointer (some ⟨b4,0,none⟩))]) (gq++((b4,_)::((b2,_)::(A++([]))))) (sl Y) KP ⟨kw,gq,Y,Y,df,fJ⟩)
       .rintro _ _ ⟨xB,su,rfl,rfl,DE,yK⟩;replace h:=hk;refine qW (xQ Y (GA Y Hc (mR (mT mH))) (xZ Y (GS Y Y Hc Y ON (mR mH) (Upd.seg uH)) (va Y (nV ?_))));subst h
        exact VV results82 Y Hc (mR mH) Y (cat [cat [A,su]]) PK (⟨_,Y,KV,_,_,_,_,_,Y,Y,(zd.mono SB),(zc.mono SB),(zb.mono SB),(yK.mono SB),(Sub.cat (Sub.refl _) [su]),KV⟩)
      .refine jW (xQ Y (GA Y Hc (mT (mT mH))) (xZ Y (GS Y Y Hc Y ON mH uH) (va Y (nV ?_))));subst h
       exact VV results82 Y Hc mH Y (cat [cat [A]]) PK (⟨_,Y,KV,_,_,_,_,_,Y,Y,(zd.mono SB),(zc.mono SB),(zb.mono SB),(za.mono SB),(Sub.cat (Sub.refl _) []),KV⟩)
theorem Yk {al aa ab ah ae ac ag af ad ai aj ak A zi zh zf zg} (w) (zd:OJ 3 1 ic A zi ad) (zc:OJ 3 1 ic A zh ai) (zb:OJ 3 1 ic A zf aj) (za:OJ 104 5 iv A zg ak) (hC:Has w (cat [A])) (r) (h:KH al aa ab ah ae ac ag af ad ai aj ak (Eq r)):Con prog 76 #[AG 13 (cl (An al aa ab ah (ae) ac ag af zi zh zf zg))] w (IF fun v Ls=>Cov w (cat [A]) (cat Ls)/\∃ (dD cB cA cz u1:Value) (CA C1:GH),v=.tuple #[AG 13 (cl (An r.1.1 r.1.2.1 r.1.2.2.1 r.1.2.2.2.1 (r.1.2.2.2.2.1) r.1.2.2.2.2.2.1 r.1.2.2.2.2.2.2.1 r.1.2.2.2.2.2.2.2.1 dD cB cA cz)),u1,iI r.2.2]/\Ls=[CA,C1]/\OJ 3 1 ic CA dD r.1.2.2.2.2.2.2.2.2.1/\OJ 3 1 ic CA cB r.1.2.2.2.2.2.2.2.2.2.1/\OJ 3 1 ic CA cA r.1.2.2.2.2.2.2.2.2.2.2.1/\OJ 104 5 iv CA cz r.1.2.2.2.2.2.2.2.2.2.2.2/\Sub A CA/\Cov w A CA/\OJ 45 28 iv C1 u1 r.2.1/\Cov w [] C1):=by
 unfold KH at h;refine ce func76 Y ntmps76 Y (Ni hC (A++([])) Y (wS (xr Y (HA (An al aa ab ah (ae) ac ag af zi zh zf zg) Y H9) ?_)));rintro _ _ ⟨b1,ko,rfl,rfl⟩;refine xr Y (G1 Ao LH H9) ?_;rintro _ _ ⟨b2,j5,rfl,rfl⟩;refine va Y (va Y (nY (wS (Xf Ix Y Y (Xi aa GF Y Y (xQ Y (Hr Y Y) (nS (wn Y h (fun bB h=>?_) fun bB h=>?_))))))))
 .refine wS (xQ Y (GA Y Hc (mT mH)) (xZ Y (GS Y Y Hc Y ON mH uH) (va Y (va Y (nU ?_)))));subst h
  exact O5 results76 Y Hc mH Y Y (cat [cat [A],[]]) PK (⟨_,Y,KV,_,_,_,_,_,_,_,Y,Y,(zd.mono SB),(zc.mono SB),(zb.mono SB),(za.mono SB),(Sub.cat (Sub.refl _) []),KV,OJ.nil,Cov.refl _⟩)
 .refine jS (wS (Xf L7 Y Y (Xl (.bool (ae)) Om Y Y (nS (wb Y h (fun bA h=>?_) fun bA h=>?_)))))
  .refine wS (xQ Y (GA Y Hc (mT mH)) (xZ Y (GS Y Y Hc Y ON mH uH) (va Y (va Y (nU ?_)))));subst h
   exact O5 results76 Y Hc mH Y Y (cat [cat [A],[]]) PK (⟨_,Y,KV,_,_,_,_,_,_,_,Y,Y,(zd.mono SB),(zc.mono SB),(zb.mono SB),(za.mono SB),(Sub.cat (Sub.refl _) []),KV,OJ.nil,Cov.refl _⟩)
  .refine jS (wS (Xf Lt Y Y (Xl (zi) HX Y Y (xQ Y (Hs Y underlying59 Y (OJ.val zd)) (xQ Y (GI Y Y) (nS (wd Y h (fun cx h=>?_) fun cx h=>?_)))))))
   .refine wS (xQ Y (GA Y Hc (mT mH)) ?_);obtain⟨el,h⟩:=h;refine xr Y (OT.st (fun _ h=>St.permJ [2,0,1] [[(b2,_)],[(b1,_)],A] h) (GC (Cs:=[A]) (Rs:=[[(b2,_)],[(b1,_)]]) Abc Y (fun w1 br=>Ns w1 zd zc zb za (St.hasC br) _ (OB el)) (fun _ _ _ h=>h.1))) ?_;rintro _ _ ⟨w1,_,rfl,hle,-,sB,y5,qu,r9,iQ,y3,eI,rfl,rfl,jO,lj,fh,fw,jf,p7,dP,cH⟩;replace p7:=Cov.trans (Cov.refl _) (Cov.base (w0:=w) p7 hle);replace cH:=Cov.base (w0:=w) cH hle;have tt:Sub A y3:=jf
    have BA:=zd.mono (Sub.mem jf)
    have Bz:=zc.mono (Sub.mem jf)
    have rX:=zb.mono (Sub.mem jf)
    have tP:=za.mono (Sub.mem jf)
    refine G0 (y3++(eI++((b2,_)::((b1,_)::([]))))) (fun _ h=>h) (ve Y (ve Y (ve Y (xZ Y (GS Y Y Hc Y ON (mR (mR mH)) (Upd.seg (Upd.seg uH))) (va Y (va Y (nU ?_)))))));subst h
    exact O5 results76 Y Hc (mR (mR mH)) Y Y (cat [cat [y3],eI]) PK (⟨_,Y,KV,_,_,_,_,_,_,_,Y,Y,(jO.mono SB),(lj.mono SB),(fh.mono SB),(fw.mono SB),(Sub.cat tt []),KV,dP,cH⟩)
   .refine jW (Xf Ix Y Y (xZ Y (Ha Y Y GF Y (mT mH) Y (pT pH) (uT uH)) (nY (GK Z Z (fun hok=>?_)))));refine Bw Hc hok 0 Y Z Y (mT mH) (Bw Hc hok 1 Y Z Y (mT mH) ?_);obtain⟨gl,h⟩:=h;refine GV hok 2 [(23,_)] Y Y Z (lc Y ln) Z trivial (OT.st (fun _ h=>h) (GC (Cs:=[]) (Rs:=[[(b2,_)],[(b1,_)],A]) Wo Y (fun w1 br=>aF ((fun(br:St w ((b2,_)::((b1,_)::(A++([])))) w1)=>Ms w1 (zd.sl br SG) (zc.sl br SG) (zb.sl br SG) (za.sl br SG) SL.nil _ (Qv gl)) br)) (by exact fun _ _ _ h=>h.1))) ?_;rintro ly _ ⟨w1,_,rfl,hle,-,_,gg,rfl,rfl,fm,dX⟩;replace dX:=Cov.base (w0:=w) dX hle;refine Iv (H':=gg++((b2,_)::((b1,_)::(A++([]))))) Y ?_;refine⟨RA,KM,?_⟩;refine HF hok 1 3 [(2,_),(22,_)] Y Y Z Z (lc Y (lc Y ln)) Z trivial (GS Y Y Hc Y ON (mR mH) (Upd.seg uH)) ?_;rintro _ _ ⟨rfl,rfl⟩;refine⟨KM,?_⟩;refine Ba hok 4 Y Z Y (Ba hok 5 Y Z Y (GM hok Z (Gt (Hl ?_))));subst h
    exact O5 results76 Y Hc (mR mH) Y Y (cat [cat [A],gg]) PK (⟨_,Y,KV,_,_,_,_,_,_,_,Y,Y,(zd.mono SB),(zc.mono SB),(zb.mono SB),(za.mono SB),(Sub.cat (Sub.refl _) []),KV,fm,dX⟩)
theorem Ab3 {al aa ab ah ae ac ag af ad ai aj ak m1 A zi zh zf zg} (w) (zd:OJ 3 1 ic A zi ad) (zc:OJ 3 1 ic A zh ai) (zb:OJ 3 1 ic A zf aj) (za:OJ 104 5 iv A zg ak) (hC:Has w (cat [A])) (r) (h:T7 al aa ab ah ae ac ag af ad ai aj ak m1 r):Con prog 83 #[AG 13 (cl (An al aa ab ah (ae) ac ag af zi zh zf zg)),AI 28 m1] w (IF fun v Ls=>Cov w (cat [A]) (cat Ls)/\∃ (dD cB cA cz u1:Value) (CA C1:GH),v=.tuple #[AG 13 (cl (An r.1.1 r.1.2.1 r.1.2.2.1 r.1.2.2.2.1 (r.1.2.2.2.2.1) r.1.2.2.2.2.2.1 r.1.2.2.2.2.2.2.1 r.1.2.2.2.2.2.2.2.1 dD cB cA cz)),u1,iI r.2.2]/\Ls=[CA,C1]/\OJ 3 1 ic CA dD r.1.2.2.2.2.2.2.2.2.1/\OJ 3 1 ic CA cB r.1.2.2.2.2.2.2.2.2.2.1/\OJ 3 1 ic CA cA r.1.2.2.2.2.2.2.2.2.2.2.1/\OJ 104 5 iv CA cz r.1.2.2.2.2.2.2.2.2.2.2.2/\Sub A CA/\Cov w A CA/\OJ 45 28 iv C1 u1 r.2.1/\Cov w [] C1):=by
 unfold T7 at h;refine ce func83 Y ntmps83 Y (Ni hC (A++([])) Y (wS (xr Y (HA (An al aa ab ah (ae) ac ag af zi zh zf zg) Y H9) ?_)));rintro _ _ ⟨b2,j5,rfl,rfl⟩;refine xr Y (He Y) ?_;rintro _ _ ⟨b3,iU,rfl,rfl⟩;refine xr Y (G1 Ao LH H9) ?_;rintro _ _ ⟨b4,lw,rfl,rfl⟩;refine va Y (va Y (nY (wS (xQ Y (GA Y Hc (mT (mT mH))) (xQ Y (GA Y Hm (mT mH)) (xc Y Abb Y (fun w1 br=>Qe w1 (zd.sl br SG) (zc.sl br SG) (zb.sl br SG) (za.sl br SG) _ (RN)) (xQ Y (Hh Y) (nS (wc Y h (fun bB h=>?_) fun bB h=>?_)))))))))
 .refine wS (xQ Y (GA Y Hc (mT (mT mH))) (xZ Y (GS Y Y Hc Y ON mH uH) (va Y (va Y (nU ?_)))));subst h
  exact O5 results83 Y Hc mH Y Y (cat [cat [A],[]]) PK (⟨_,Y,KV,_,_,_,_,_,_,_,Y,Y,(zd.mono SB),(zc.mono SB),(zb.mono SB),(za.mono SB),(Sub.cat (Sub.refl _) []),KV,OJ.nil,Cov.refl _⟩)
 .refine jS (wS (Xf Ix Y Y (Xi aa GF Y Y (xQ Y (Hr Y Y) (nS (wn Y h (fun bA h=>?_) fun bA h=>?_))))))
  .refine wS (xQ Y (GA Y Hc (mT (mT mH))) (xZ Y (GS Y Y Hc Y ON mH uH) (va Y (va Y (nU ?_)))));subst h
   exact O5 results83 Y Hc mH Y Y (cat [cat [A],[]]) PK (⟨_,Y,KV,_,_,_,_,_,_,_,Y,Y,(zd.mono SB),(zc.mono SB),(zb.mono SB),(za.mono SB),(Sub.cat (Sub.refl _) []),KV,OJ.nil,Cov.refl _⟩)
  .refine jS (wS (Xf Lt Y Y (Xl (zi) HX Y Y (Xf IE Y Y (Xi (m1 1) GF Y Y ?_)))));obtain⟨fX,h⟩:=h;refine xc Y Aba Y (fun w1 br=>RZ w1 (zd.sl br SG) _ (Uh fX)) (xQ Y (Hh Y) (nS (wc Y h (fun cb h=>?_) fun cb h=>?_)))
   .refine wS (xQ Y (GA Y Hc (mT (mT mH))) (xZ Y (GS Y Y Hc Y ON mH uH) (va Y (va Y (nU ?_)))));subst h
    exact O5 results83 Y Hc mH Y Y (cat [cat [A],[]]) PK (⟨_,Y,KV,_,_,_,_,_,_,_,Y,Y,(zd.mono SB),(zc.mono SB),(zb.mono SB),(za.mono SB),(Sub.cat (Sub.refl _) []),KV,OJ.nil,Cov.refl _⟩)
   .refine jS (wS (Xf Hi Y Y (Xi (m1 8) GF Y Y (xQ Y (GI Y Y) (nS (wd Y h (fun dU h=>?_) fun dU h=>?_))))))
    .refine wS (xQ Y (GA Y Hc (mT (mT mH))) ?_);obtain⟨eX,h⟩:=h;refine xr Y (OT.st (fun _ h=>St.permJ [3,0,1,2] [[(b4,_)],[(b3,_)],[(b2,_)],A] h) (GC (Cs:=[A]) (Rs:=[[(b4,_)],[(b3,_)],[(b2,_)]]) Abc Y (fun w1 br=>Ns w1 zd zc zb za (St.hasC br) _ (OB eX)) (fun _ _ _ h=>h.1))) ?_;rintro _ _ ⟨w1,_,rfl,hle,-,qu,r9,iQ,nT,ka,sx,d7,rfl,rfl,fh,fw,dP,eO,je,ox,ej,zj⟩;replace ox:=Cov.trans (Cov.refl _) (Cov.base (w0:=w) ox hle);replace zj:=Cov.base (w0:=w) zj hle;have AC:Sub A sx:=je
     have rX:=zd.mono (Sub.mem je)
     have tP:=zc.mono (Sub.mem je)
     have By:=zb.mono (Sub.mem je)
     have Bv:=za.mono (Sub.mem je)
     refine G0 (sx++(d7++((b4,_)::((b3,_)::((b2,_)::([])))))) (fun _ h=>h) (ve Y (ve Y (ve Y (xZ Y (GS Y Y Hc Y ON (mR (mR mH)) (Upd.seg (Upd.seg uH))) (va Y (va Y (nU ?_)))))));subst h
     exact O5 results83 Y Hc (mR (mR mH)) Y Y (cat [cat [sx],d7]) PK (⟨_,Y,KV,_,_,_,_,_,_,_,Y,Y,(fh.mono SB),(fw.mono SB),(dP.mono SB),(eO.mono SB),(Sub.cat AC []),KV,ej,zj⟩)
    .refine jW (Xf Q5 Y Y (Xl (zh) HX Y Y (Xf IE Y Y (Xi (m1 1) GF Y Y ?_))));obtain⟨fY,h⟩:=h;refine Ir Y trivial Aej Y (fun w1 br=>SK w1 (zc.sl br SG) _ (Uw fY)) ?_;rintro w1 jI _ br ⟨_,eT,rfl,rfl,eZ,fO⟩;refine⟨_,Mg.news (Cov.fresh fO) (.nil _),?_⟩;replace fO:=Cov.base (w0:=w) fO br.size;refine Xf Q5 Y Y (xZ Y (Ha Y Y HX (GL (OJ.val eZ)) (mR (mT (mT mH))) Y (pT (pT (pT (pT (pT (pT (pT (pT (pT (pT pH)))))))))) (Upd.seg (uT (uT uH)))) (nY (wS (va Y (nS (Gz ?_))))));obtain⟨x1,fq,h⟩:=h;refine xL (fun s e H=>match s with | (i7,sr,im,il,ik,ij,ii,ig,ie)=>e=[(2,.pointer (some ⟨b2,0,none⟩)),(4,.pointer (some ⟨b4,0,none⟩)),(7,iI i7)]/\H=eT++((b4,BK 13 (cl (An sr im il ik (ij) ii ig ie (.slice none 0 0) (.slice none 0 0) (.slice none 0 0) (.slice none 0 0))) 98)::((b2,BK 13 (cl (An al aa ab ah (ae) ac ag af zi jI zf zg)) 98)::(A++([]))))) (fun x ex e H=>match x with | .inl (sr,im,il,ik,ij,ii,ig,ie)=>ex=.exit 0/\e=[(2,.pointer (some ⟨b2,0,none⟩)),(4,.pointer (some ⟨b4,0,none⟩))]/\H=eT++((b4,BK 13 (cl (An sr im il ik (ij) ii ig ie (.slice none 0 0) (.slice none 0 0) (.slice none 0 0) (.slice none 0 0))) 98)::((b2,BK 13 (cl (An al aa ab ah (ae) ac ag af zi jI zf zg)) 98)::(A++([])))) | .inr _=>ex=.ret/\e=[(4,.pointer (some ⟨b4,0,none⟩)),(5,.slice none 0 0),(6,iI 0)]/\H=eT++((b4,BK 13 (cl (An al aa ab ah (ae) ac ag af zi jI zf zg)) 98)::((b2,BK 13 (cl (An al aa ab ah (ae) ac ag af zi jI zf zg)) 98)::(A++([]))))) fq ⟨Y,Y⟩ ?_ ?_
     .rintro⟨i7,sr,im,il,ik,ij,ii,ig,ie⟩ o _ _ ⟨rfl,rfl⟩ hb;have h:MK ad ai m1 i7 sr im il ik ij ii ig ie o:=hb
      clear hb;unfold MK at h;refine Gu (wS (vm Y (Xf Lt Y Y (Xl (zi) HX Y Y (xQ Y (Hs Y underlying59 Y (OJ.val zd)) (xQ Y (G6 Y Y) (nS (wd Y h (fun kl h=>?_) fun kl h=>?_))))))))
      .refine jS (Gz (Gu (GK Z Z (fun hok=>?_))));refine Bf Q5 hok 0 Y Z Y (Bl jI HX hok 1 Y Z Y (mR (mT mH)) (Bf Lt hok 2 Y Z Y (Bl zi HX hok 3 Y Z Y (mR (mT mH)) (Bm hok 4 Y Z Y ?_))));obtain⟨gY,h⟩:=h;refine NN hok 5 [48,49] (A++([])) (Md SG Nd) Y Z (fun _ hy hK=>Hy HY Y Y (fun w hw=>(zd.sl hw (SH hy))) Y gY) (NN hok 6 [50] (A++([])) (Md SG Nd) Y Z (fun _ hy hK=>HN (off:=0) (u:=iI (ad[i7.toNat]!)) Y GF Y (fun w hw=>(zd.sl hw (SH hy))) (GG gY) Y Y) ?_);obtain⟨jL,h⟩:=h;refine NN hok 7 [46,51] (eT++([])) (Md SG Nd) Y Z (fun _ hy hK=>JW Aba Y (fun w1 br=>RZ w1 (eZ.sl br (SH hy)) _ (Uh jL))) (xb hok 8 [52] Y Z (fun _ hK=>Hh Y) (GM hok Z (Gt (wc Y h (fun oT h=>?_) fun oT h=>?_))))
       .exact wS (xQ Y (GA Y Hc (mR (mT mH))) (xZ Y (GS Y Y Hc Y ON (mR mH) (Upd.seg uH)) (va Y (va Y (nV (GB (Gx (xO h ⟨Y,Y,Y⟩))))))))
       .refine GY (GZ 1 (Gt (Gr (vm Y ?_))));obtain⟨kE,h⟩:=h;exact xQ Y (Hk Y Y Y kE) (va Y (Gw (xN h ⟨Y,Y⟩)))
      .exact GJ (Gs (xO h ⟨Y,Y,Y⟩))
     .rcases x1 with ⟨sr,im,il,ik,ij,ii,ig,ie⟩ | x1
      .rintro _ _ _ ⟨rfl,rfl,rfl⟩;replace h:SN al aa ab ah ae ac ag af ad ai aj ak m1 sr im il ik ij ii ig ie r:=h;unfold SN at h;refine GD (qW (xQ Y (GA Y Hc (mR (mT mH))) ?_));obtain⟨wT,jR⟩:∃ B:GH,B=cat [A,eT]:=⟨_,rfl⟩;have yD:Cov w A wT:=jR▸Cov.more (Cov.refl _) (aC (N:=eT) fO Cov.nil)
       have yw:Sub A wT:=jR▸Sub.cat (Sub.refl _) [eT]
       have oE:=zd.mono (SE jR)
       have nm:=zb.mono (SE jR)
       have qe:=za.mono (SE jR)
       have rS:=eZ.mono (SE jR)
       refine G0 (wT++((b4,_)::((b2,_)::([])))) (fun _ h=>by rw[jR];exact St.fold [A,eT] [[(b4,_)],[(b2,_)]] (St.permJ [3,0,1,2] [eT,[(b4,_)],[(b2,_)],A] h)) ?_;obtain⟨li,h⟩:=h;refine xr Y (OT.st (fun _ h=>h) (GC (Cs:=[wT]) (Rs:=[[(b4,_)],[(b2,_)]]) Abc Y (fun w1 br=>Ns w1 oE rS nm qe (St.hasC br) _ (OB li)) (fun _ _ _ h=>h.1))) ?_;rintro _ _ ⟨w1,_,rfl,hle,-,xy,oO,B0,zA,BZ,y4,ru,rfl,rfl,kr,gI,tJ,rR,ni,tw,oz,iY⟩;replace tw:=Cov.trans yD (Cov.base (w0:=w) tw hle);replace iY:=Cov.base (w0:=w) iY hle;have yv:Sub A y4:=Sub.trans yw ni
       have EH:=oE.mono (Sub.mem ni)
       have EG:=rS.mono (Sub.mem ni)
       have EF:=nm.mono (Sub.mem ni)
       have EE:=qe.mono (Sub.mem ni)
       refine G0 (y4++(ru++((b4,_)::((b2,_)::([]))))) (fun _ h=>h) (ve Y (ve Y (ve Y (xZ Y (GS Y Y Hc Y ON (mR (mR mH)) (Upd.seg (Upd.seg uH))) (va Y (va Y (nV ?_)))))));subst h
       exact O5 results83 Y Hc (mR (mR mH)) Y Y (cat [cat [y4],ru]) PK (⟨_,Y,KV,_,_,_,_,_,_,_,Y,Y,(kr.mono SB),(gI.mono SB),(tJ.mono SB),(rR.mono SB),(Sub.cat yv []),KV,oz,iY⟩)
      cases x1
      rintro _ _ _ ⟨rfl,rfl,rfl⟩;replace h:SM al aa ab ah ae ac ag af ad ai aj ak m1 r:=h;unfold SM at h;refine GB (Gx ?_);subst h
      exact O5 results83 Y Hc (mR mH) Y Y (cat [cat [A,eT],[]]) PK (⟨_,Y,KV,_,_,_,_,_,_,_,Y,Y,(zd.mono SB),(eZ.mono SB),(zb.mono SB),(za.mono SB),(Sub.cat (Sub.refl _) [eT]),KV,OJ.nil,Cov.refl _⟩)
theorem UG {al aa ab ah ae ac ag af ad ai aj ak bC A zi zh zf zg} (w) (zd:OJ 3 1 ic A zi ad) (zc:OJ 3 1 ic A zh ai) (zb:OJ 3 1 ic A zf aj) (za:OJ 104 5 iv A zg ak) (hC:Has w (cat [A])) (r) (h:Kk al aa ab ah ae ac ag af ad ai aj ak bC (Eq r)):Con prog 77 #[AG 13 (cl (An al aa ab ah (ae) ac ag af zi zh zf zg)),iI bC] w (IF fun v Ls=>Cov w (cat [A]) (cat Ls)/\∃ (dD cB cA cz u1:Value) (CA C1:GH),v=.tuple #[AG 13 (cl (An r.1.1 r.1.2.1 r.1.2.2.1 r.1.2.2.2.1 (r.1.2.2.2.2.1) r.1.2.2.2.2.2.1 r.1.2.2.2.2.2.2.1 r.1.2.2.2.2.2.2.2.1 dD cB cA cz)),u1,iI r.2.2]/\Ls=[CA,C1]/\OJ 3 1 ic CA dD r.1.2.2.2.2.2.2.2.2.1/\OJ 3 1 ic CA cB r.1.2.2.2.2.2.2.2.2.2.1/\OJ 3 1 ic CA cA r.1.2.2.2.2.2.2.2.2.2.2.1/\OJ 104 5 iv CA cz r.1.2.2.2.2.2.2.2.2.2.2.2/\Sub A CA/\Cov w A CA/\OJ 45 28 iv C1 u1 r.2.1/\Cov w [] C1):=by
 unfold Kk at h;refine ce func77 Y ntmps77 Y (Ni hC (A++([])) Y (wS (xr Y (HA (An al aa ab ah (ae) ac ag af zi zh zf zg) Y H9) ?_)));rintro _ _ ⟨b2,j5,rfl,rfl⟩;refine xr Y (G1 Ao LH H9) ?_;rintro _ _ ⟨b4,lw,rfl,rfl⟩;refine va Y (va Y (nY (Gu (wk [1,2,4] Y [(12,.bool ((decide (bC<1))||(decide (5<bC))))] ?_ ?_))))
 .refine Gr (vm Y (xQ Y (G6 Y Y) (vm Y (IY 9 Y (fun bB=>?_) fun bB=>?_))))
  .exact Ma bB
  .exact vm Y (xQ Y (Hz Y Y) (Ma bB))
 .refine Gt (wb Y h (fun bA h=>?_) fun bA h=>?_)
  .refine wS (xQ Y (GA Y Hc (mT mH)) (xZ Y (GS Y Y Hc Y ON mH uH) (va Y (va Y (nU ?_)))));subst h
   exact O5 results77 Y Hc mH Y Y (cat [cat [A],[]]) PK (⟨_,Y,KV,_,_,_,_,_,_,_,Y,Y,(zd.mono SB),(zc.mono SB),(zb.mono SB),(za.mono SB),(Sub.cat (Sub.refl _) []),KV,OJ.nil,Cov.refl _⟩)
  .refine jS (wS (xQ Y (GA Y Hc (mT mH)) (xc Y Aei Y (fun w1 br=>UF w1 (zd.sl br SG) (zc.sl br SG) (zb.sl br SG) (za.sl br SG) _ (W1)) (nS (wb Y h (fun cx h=>?_) fun cx h=>?_)))))
   .refine wS (xQ Y (GA Y Hc (mT mH)) (xZ Y (GS Y Y Hc Y ON mH uH) (va Y (va Y (nU ?_)))));subst h
    exact O5 results77 Y Hc mH Y Y (cat [cat [A],[]]) PK (⟨_,Y,KV,_,_,_,_,_,_,_,Y,Y,(zd.mono SB),(zc.mono SB),(zb.mono SB),(za.mono SB),(Sub.cat (Sub.refl _) []),KV,OJ.nil,Cov.refl _⟩)
   .refine jW (xQ Y (GA Y Hc (mT mH)) (vm Y ?_));obtain⟨el,h⟩:=h;refine xr Y (OT.st (fun _ h=>St.permJ [2,0,1] [[(b4,_)],[(b2,_)],A] h) (GC (Cs:=[A]) (Rs:=[[(b4,_)],[(b2,_)]]) Abc Y (fun w1 br=>Ns w1 zd zc zb za (St.hasC br) _ (OB el)) (fun _ _ _ h=>h.1))) ?_;rintro _ _ ⟨w1,_,rfl,hle,-,sB,y5,qu,r9,iQ,y3,eI,rfl,rfl,jO,lj,fh,fw,jf,p7,dP,cH⟩;replace p7:=Cov.trans (Cov.refl _) (Cov.base (w0:=w) p7 hle);replace cH:=Cov.base (w0:=w) cH hle;have tt:Sub A y3:=jf
    have BA:=zd.mono (Sub.mem jf)
    have Bz:=zc.mono (Sub.mem jf)
    have rX:=zb.mono (Sub.mem jf)
    have tP:=za.mono (Sub.mem jf)
    refine G0 (y3++(eI++((b4,_)::((b2,_)::([]))))) (fun _ h=>h) (ve Y (ve Y (ve Y (xZ Y (GS Y Y Hc Y ON (mR (mR mH)) (Upd.seg (Upd.seg uH))) (va Y (va Y (nV ?_)))))));subst h
    exact O5 results77 Y Hc (mR (mR mH)) Y Y (cat [cat [y3],eI]) PK (⟨_,Y,KV,_,_,_,_,_,_,_,Y,Y,(jO.mono SB),(lj.mono SB),(fh.mono SB),(fw.mono SB),(Sub.cat tt []),KV,dP,cH⟩)
theorem Adu {al aa ab ah ae ac ag af ad ai aj ak m1 A zi zh zf zg} (w) (zd:OJ 3 1 ic A zi ad) (zc:OJ 3 1 ic A zh ai) (zb:OJ 3 1 ic A zf aj) (za:OJ 104 5 iv A zg ak) (hC:Has w (cat [A])) (r) (h:PA al aa ab ah ae ac ag af ad ai aj ak m1 (Eq r)):Con prog 84 #[AG 13 (cl (An al aa ab ah (ae) ac ag af zi zh zf zg)),AI 28 m1] w (IF fun v Ls=>Cov w (cat [A]) (cat Ls)/\∃ (dD cB cA cz:Value) (CA:GH),v=.tuple #[AG 13 (cl (An r.1.1 r.1.2.1 r.1.2.2.1 r.1.2.2.2.1 (r.1.2.2.2.2.1) r.1.2.2.2.2.2.1 r.1.2.2.2.2.2.2.1 r.1.2.2.2.2.2.2.2.1 dD cB cA cz)),iI r.2]/\Ls=[CA]/\OJ 3 1 ic CA dD r.1.2.2.2.2.2.2.2.2.1/\OJ 3 1 ic CA cB r.1.2.2.2.2.2.2.2.2.2.1/\OJ 3 1 ic CA cA r.1.2.2.2.2.2.2.2.2.2.2.1/\OJ 104 5 iv CA cz r.1.2.2.2.2.2.2.2.2.2.2.2/\Sub A CA/\Cov w A CA):=by
 unfold PA at h;refine ce func84 Y ntmps84 Y (Ni hC (A++([])) Y (wS (xr Y (HA (An al aa ab ah (ae) ac ag af zi zh zf zg) Y H9) ?_)));rintro _ _ ⟨b2,j5,rfl,rfl⟩;refine xr Y (He Y) ?_;rintro _ _ ⟨b3,iU,rfl,rfl⟩;refine xr Y (G1 Ao LH H9) ?_;rintro _ _ ⟨b4,lw,rfl,rfl⟩;refine va Y (nY (wS (xQ Y (GA Y Hc (mT (mT mH))) (xQ Y (GA Y Hm (mT mH)) (xc Y Abb Y (fun w1 br=>Qe w1 (zd.sl br SG) (zc.sl br SG) (zb.sl br SG) (za.sl br SG) _ (RN)) (xQ Y (Hh Y) (nS (wc Y h (fun bB h=>?_) fun bB h=>?_))))))))
 .refine wS (xQ Y (GA Y Hc (mT (mT mH))) (xZ Y (GS Y Y Hc Y ON mH uH) (va Y (nU ?_))));subst h
  exact VV results84 Y Hc mH Y (cat [cat [A]]) PK (⟨_,Y,KV,_,_,_,_,_,Y,Y,(zd.mono SB),(zc.mono SB),(zb.mono SB),(za.mono SB),(Sub.cat (Sub.refl _) []),KV⟩)
 .refine jS (wS (xQ Y (GA Y Hc (mT (mT mH))) (xc Y Aei Y (fun w1 br=>UF w1 (zd.sl br SG) (zc.sl br SG) (zb.sl br SG) (za.sl br SG) _ (W1)) (xQ Y (Hh Y) (nS (wc Y h (fun bA h=>?_) fun bA h=>?_))))))
  .refine wS (xQ Y (GA Y Hc (mT (mT mH))) (xZ Y (GS Y Y Hc Y ON mH uH) (va Y (nU ?_))));subst h
   exact VV results84 Y Hc mH Y (cat [cat [A]]) PK (⟨_,Y,KV,_,_,_,_,_,Y,Y,(zd.mono SB),(zc.mono SB),(zb.mono SB),(za.mono SB),(Sub.cat (Sub.refl _) []),KV⟩)
  .refine jS (wS (Xf Lt Y Y (Xl (zi) HX Y Y (Xf IE Y Y (Xi (m1 1) GF Y Y ?_)))));obtain⟨fX,h⟩:=h;refine xc Y Aba Y (fun w1 br=>RZ w1 (zd.sl br SG) _ (Uh fX)) (xQ Y (Hh Y) (nS (wc Y h (fun cb h=>?_) fun cb h=>?_)))
   .refine wS (xQ Y (GA Y Hc (mT (mT mH))) (xZ Y (GS Y Y Hc Y ON mH uH) (va Y (nU ?_))));subst h
    exact VV results84 Y Hc mH Y (cat [cat [A]]) PK (⟨_,Y,KV,_,_,_,_,_,Y,Y,(zd.mono SB),(zc.mono SB),(zb.mono SB),(za.mono SB),(Sub.cat (Sub.refl _) []),KV⟩)
   .refine jW (Xf Qr Y Y (Xl (zf) HX Y Y (Xf IE Y Y (Xi (m1 1) GF Y Y ?_))));obtain⟨eY,h⟩:=h;refine Ir Y trivial Aej Y (fun w1 br=>SK w1 (zb.sl br SG) _ (Uw eY)) ?_;rintro w1 sB _ br ⟨_,j7,rfl,rfl,jO,ew⟩;refine⟨_,Mg.news (Cov.fresh ew) (.nil _),?_⟩;replace ew:=Cov.base (w0:=w) ew br.size;refine Xf Qr Y Y (xZ Y (Ha Y Y HX (GL (OJ.val jO)) (mR (mT (mT mH))) Y (pT (pT (pT (pT (pT (pT (pT (pT (pT (pT (pT pH))))))))))) (Upd.seg (uT (uT uH)))) (nR (xQ Y (GA Y Hc (mR (mT (mT mH)))) (xZ Y (GS Y Y Hc Y ON (mR mH) (Upd.seg uH)) (va Y (nV ?_))))));subst h
    exact VV results84 Y Hc (mR mH) Y (cat [cat [A,j7]]) PK (⟨_,Y,KV,_,_,_,_,_,Y,Y,(zd.mono SB),(zc.mono SB),(jO.mono SB),(za.mono SB),(Sub.cat (Sub.refl _) [j7]),KV⟩)
theorem ZG {al aa ab ah ae ac ag af ad ai aj ak cY zi zh zf zg} (w) (ci:SL w 1 ic zi ad) (bV:SL w 1 ic zh ai) (bU:SL w 1 ic zf aj) (bY:SL w 5 iv zg ak) (r) (h:MN al aa ab ah ae ac ag af ad ai aj ak cY (Eq r)):Con prog 87 #[AG 13 (cl (An al aa ab ah (ae) ac ag af zi zh zf zg)),.bool (cY)] w (fun v F=>∃ (u0:Value) (C0:GH),v=u0/\F=(C0++[])/\OJ 45 28 iv C0 u0 r/\Cov w [] C0):=by
 unfold MN at h;refine ce func87 Y ntmps87 Y (wS (xr Y (HA (An al aa ab ah (ae) ac ag af zi zh zf zg) Y H9) ?_));rintro _ _ ⟨b2,j5,rfl,rfl⟩;refine va Y (nY (wS (Xf Ix Y Y (Xi aa GF Y Y (xQ Y (GI Y Y) (nS (wd Y h (fun bB h=>?_) fun bB h=>?_)))))))
 .refine wS (va Y (nY (wS (Xf L7 Y Y (Xl (.bool (ae)) Om Y Y (nS (wb Y h (fun bA h=>?_) fun bA h=>?_)))))))
  .refine Gr (vm Y (xQ Y (GA Y Hc mH) (xc Y Agj Y (fun w1 br=>Wf w1 (ci.keep br FR) (bV.keep br FR) (bU.keep br FR) (bY.keep br FR) _ (Yi)) (xr Y (Ho Re Lf Y Y Y (.ints Y Y (.nil _))) ?_))));rintro _ _ ⟨nQ,DJ,rfl,rfl⟩;obtain⟨el,h⟩:=h;refine xr Y (OT.st (fun _ h=>h) (Hj (c:=iv) (l:=[]) (l':=[(JT al aa ab ah ae ac ag af ad ai aj ak)]) (B:=[]) TX Y Y OJ.nil (fun w2 cC=>(JH 1 (l:=[(JT al aa ab ah ae ac ag af ad ai aj ak)]) cC (mR mH) Y Y AJ)) (fun _ _=>Y) el (G2 el D))) ?_;rintro oo _ ⟨ee,rfl,qM,gp⟩;have dp:=qM
   refine va Y (nY (wS (vm Y (nS (wb Y h (fun dU h=>?_) fun dU h=>?_)))))
   .refine Gr (vm Y (xQ Y (GA Y Hc (mR (mT mH))) ?_));obtain⟨eX,h⟩:=h;refine Ir Y trivial Wo Y (fun w1 br=>Ms w1 (ci.keep br FR) (bV.keep br FR) (bU.keep br FR) (bY.keep br FR) SL.nil _ (Qv eX)) ?_;rintro w1 y5 _ br ⟨_,wP,rfl,rfl,lj,fZ⟩;refine⟨_,Mg.news (Cov.fresh fZ) (.nil _),?_⟩;replace fZ:=Cov.base (w0:=w) fZ br.size;obtain⟨jv,h⟩:=h;refine xr Y (OT.st (fun _ h=>Pull.st (qT qH) h) (Hj (l:=([]++[(JT al aa ab ah ae ac ag af ad ai aj ak)])) (l':=(JA al aa ab ah ae ac ag af ad ai aj ak 8 0 ([]))) (B:=ee) TX Y Y gp (fun w2 cC=>(lj.sl cC SG)) (fun _ _=>Y) jv (G2 jv D))) ?_;rintro qu _ ⟨ku,rfl,oX,fh⟩;have db:=Cov.trans dp oX
    refine G0 (wP++(ku++((nQ,_)::((b2,_)::([]))))) (fun _ h=>Pull.push (qT qH) h) (va Y (nR (vm Y (va Y (nU ?_)))));subst h
    exact yA results87 Y _ KP (⟨_,ku,Y,Y,fh,db⟩)
   .refine jW (vm Y (va Y (nU ?_)));subst h
    exact yA results87 Y _ KP (⟨_,ee,Y,Y,gp,dp⟩)
  .refine jS (wS (vm Y (nS (wb Y h (fun cg h=>?_) fun cg h=>?_))))
   .refine Gr (vm Y (xQ Y (GA Y Hc mH) ?_));obtain⟨dy,h⟩:=h;refine Ir Y trivial Wo Y (fun w1 br=>Ms w1 (ci.keep br FR) (bV.keep br FR) (bU.keep br FR) (bY.keep br FR) SL.nil _ (Qv dy)) ?_;rintro w1 ka _ br ⟨_,d7,rfl,rfl,ej,zj⟩;refine⟨_,Mg.news (Cov.fresh zj) (.nil _),?_⟩;replace zj:=Cov.base (w0:=w) zj br.size;obtain⟨eb,h⟩:=h;refine xr Y (OT.st (fun _ h=>h) (Hj (l:=[]) (l':=(JA al aa ab ah ae ac ag af ad ai aj ak 8 0 ([]))) (B:=[]) TX Y Y OJ.nil (fun w2 cC=>(ej.sl cC SG)) (fun _ _=>Y) eb (G2 eb D))) ?_;rintro lf _ ⟨gr,rfl,lQ,fa⟩;have eR:=lQ
    refine va Y (nR (vm Y (va Y (nU ?_))));subst h
    exact yA results87 Y _ KP (⟨_,gr,Y,Y,fa,eR⟩)
   .refine jW (vm Y (va Y (nU ?_)));subst h
    exact yA results87 Y _ KP (⟨_,[],Y,Y,OJ.nil,Cov.refl _⟩)
 .refine jS (wS (Xf Ix Y Y (Xi aa GF Y Y (xQ Y (GI Y Y) (nS (wd Y h (fun eM h=>?_) fun eM h=>?_))))))
  .refine wS (xQ Y (GA Y Hc mH) (Xf Q5 Y Y (Xl (zh) HX Y Y ?_)));obtain⟨gB,h⟩:=h;refine Ir Y trivial Wo Y (fun w1 br=>Ms w1 (ci.keep br FR) (bV.keep br FR) (bU.keep br FR) (bY.keep br FR) (bV.keep br FR) _ (Qv gB)) ?_;rintro w1 jJ _ br ⟨_,dM,rfl,rfl,d6,cG⟩;refine⟨_,Mg.news (Cov.fresh cG) (.nil _),?_⟩;replace cG:=Cov.base (w0:=w) cG br.size;refine va Y (nU ?_);subst h
   exact yA results87 Y _ KP (⟨_,dM,Y,Y,d6,cG⟩)
  .refine jS (wS (xQ Y (GA Y Hc mH) (xc Y Aei Y (fun w1 br=>UF w1 (ci.keep br FR) (bV.keep br FR) (bU.keep br FR) (bY.keep br FR) _ (W1)) (nS (wb Y h (fun cq h=>?_) fun cq h=>?_)))))
   .refine wS (xQ Y (GA Y Hc mH) (Xf Ix Y Y (Xi aa GF Y Y ?_)));obtain⟨fM,h⟩:=h;refine xQ Y (Ke Y Y Y fM) (Xf Qr Y Y (Xl (zf) HX Y Y ?_));obtain⟨gY,h⟩:=h;refine Ir Y trivial Wo Y (fun w1 br=>Ms w1 (ci.keep br FR) (bV.keep br FR) (bU.keep br FR) (bY.keep br FR) (bU.keep br FR) _ (Qv gY)) ?_;rintro w1 kw _ br ⟨_,gq,rfl,rfl,fJ,df⟩;refine⟨_,Mg.news (Cov.fresh df) (.nil _),?_⟩;replace df:=Cov.base (w0:=w) df br.size;refine va Y (nU ?_);subst h
    exact yA results87 Y _ KP (⟨_,gq,Y,Y,fJ,df⟩)
   .refine jW (va Y (nV ?_));subst h
    exact yA results87 Y _ KP (⟨_,[],Y,Y,OJ.nil,Cov.refl _⟩)
end Go.Proofs.YtljklmlodfbdnaaGreat
