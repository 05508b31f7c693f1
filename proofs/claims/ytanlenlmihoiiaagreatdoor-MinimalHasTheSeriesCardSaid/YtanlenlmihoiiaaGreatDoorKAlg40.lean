/-
  AL, part 40: a struct of five cells by value, opened and laid as data.
-/
import Derived.Test.YtanlenlmihoiiaaGreatDoorKMod117
import Derived.Lib.SmallJoins
set_option linter.unusedVariables false
namespace Go.AL
open Go Go.BigFrame
section
variable {m:gB}{sym i j s:Nat}
theorem aI0 (ok:(Aq m sym).Ok)(z:(Aq m sym).Sz 24)(h1:1<=(Aq m sym).k)(hi:i<(bn (Aq m sym)).length)(hs:s<(Aq m sym).k)(hj:j<(bn (Aq m sym)).length):sz ((lD (Aq m sym) (bn (Aq m sym)) i s).getD j 0)<=6:=by
 obtain⟨pk,pn⟩:=Aj ok z;have sk:=aH2 ok z h1;have hn:(bn (Aq m sym)).length<=3:=Nat.le_trans pn ad2;have hl:(Ld (Aq m sym)).length=(bn (Aq m sym)).length:=sk.rank.trans pk.rank.symm;have f:=pk.first
 have g:=sk.first
 have sP:∀ i,((bn (Aq m sym)).getD i []).length<=2:=λi=>by
  rcases Nat.lt_or_ge i (bn (Aq m sym)).length with h|h
  .have:=pk.short _ (getD_mem h []);omega
  .rw[Gg h];exact Nat.zero_le _
 have sS:∀ i,((Ld (Aq m sym)).getD i []).length<=2:=λi=>by
  rcases Nat.lt_or_ge i (Ld (Aq m sym)).length with h|h
  .have:=sk.short _ (getD_mem h []);omega
  .rw[Gg h];exact Nat.zero_le _
 refine bh4 (n:=(bn (Aq m sym)).length) (R:=λi j=>kU (Aq m sym) ((bn (Aq m sym)).getD i []++(Ld (Aq m sym)).getD j [])) (v:=λj=>kU (Aq m sym) (((bn (Aq m sym)).getD i []++[((s+1:Nat):Int)])++(Ld (Aq m sym)).getD j [])) (c:=λj=>(lD (Aq m sym) (bn (Aq m sym)) i s).getD j 0) hn
  (λc hc=>f.ind c λl hl2=>?_) (λi j=>UA (by rw[jd];have:=sP i;have:=sS j;omega)) (λj=>UA (by rw[jd,jd,kC];have:=sP i;have:=sS j;omega)) (λj hj=>?_) j hj
 .obtain⟨d,_,hd⟩:=g.reach l hl2;unfold uG;rw[aF (g:=λi=>c i*aW (λj=>kU (Aq m sym) ((bn (Aq m sym)).getD i []++(Ld (Aq m sym)).getD j [])*d j) (Ld (Aq m sym)).length) λi hi=>by
   have h9:=hd _ (f.uN _ (getD_mem hi []));unfold uG at h9;show c i*kU (Aq m sym) ((bn (Aq m sym)).getD i []++l)=_
   rw[show kU (Aq m sym) ((bn (Aq m sym)).getD i []++l)=_ from h9]
   congr 1;exact aF λj _=>Rat.mul_comm ..]
  rw[<- Df];refine jk λj hj=>?_;rw[hc j (by omega),Rat.zero_mul]
 .exact JZ ok z hi hs (g.uN _ (getD_mem (by omega) []))
end
theorem SN (l:List bM):(dF l).length<=l.length:=by
 have h1:∀ (S out:List bM),(S.foldl jg out).length<=out.length+S.length:=λS=>by
  induction S with
  | nil=>intro out;simp
  | cons x S ih =>
   intro out;rw[List.foldl_cons,List.length_cons];have h2:(jg out x).length<=out.length+1:=by
    unfold jg
    split
    .rw[List.length_set];omega
    .simp
   have:=ih (jg out x);omega
 have h2:=h1 (sortA l) [];have h3:(sortA l).length=l.length:=vJ ..;have h4:(dF l).length<=((sortA l).foldl jg []).length:=List.length_filter_le ..;simp at h2;omega
section
variable {a:Au}{e:Nat}{w:List Int}
theorem Xk (h1:1<=a.sym):∀ x,x ∈ (uj a).aB->x.f<(bn (ah [a])).length/\x.t<(bn (ah [a])).length/\1<=x.l/\x.l<=a.sym :=
 gK.tidy (p:=λf l t=>f<(bn (ah [a])).length/\t<(bn (ah [a])).length/\1<=l/\l<=a.sym) (gK.tidy (p:=λf l t=>f<(bn (ah [a])).length/\t<(bn (ah [a])).length/\1<=l/\l<=a.sym) λx hx=>by
  obtain⟨i,hi,s,hs,j,hj,rfl⟩:=PK.1 hx;rw[tY] at hs;exact⟨hi,hj,Nat.succ_le_succ (Nat.zero_le _),hs⟩)
theorem aX1 (h1:1<=a.sym):(uj a).Ok:=⟨h1,Ai,dL ..,λx hx=>by
 obtain⟨p1,p2,p3,p4⟩:=Xk h1 x hx;exact⟨p1,p2,p3,p4⟩⟩
theorem aI1 {s i j:Nat}(hs:s<a.sym)(hi:i<(bn (ah [a])).length)(hj:j<(bn (ah [a])).length):iU (ah [uj a]) s i j=(lD (ah [a]) (bn (ah [a])) i s).getD j 0:=by
 rw[xq (l:=[uj a]) hs (by rw[dN];exact hi) (by rw[dN];exact hj)]
 show (if i<(uj a).st then if j<(uj a).st then iH (uj a).aB s i j else 0 else _)=_
 rw[if_pos (show i<(uj a).st from hi),if_pos (show j<(uj a).st from hj)]
 show iH (dF (dF (qV (ah [a]) (bn (ah [a]))))) s i j=_
 rw[vK,vK,JY (by rw[tY];exact hs) hi hj]
theorem Xl:∀ (N:Nat) (w:List Int),w.length=N->iy a.sym w->∀ j,j<(bn (ah [a])).length->(aZ (ah [uj a]) w).getD j 0=dV (λi s j=>(lD (ah [a]) (bn (ah [a])) i s).getD j 0) (bn (ah [a])).length w j
 | 0,w,hw,_,j,hj=>by
  rw[EQ hw];show ((EP (bn (ah [a])).length)++[]).getD j 0=if 0=j then 1 else 0
  rw[List.append_nil,aG3 hj];by_cases e:j=0
  .rw[if_pos e,if_pos e.symm]
  .rw[if_neg e,if_neg (λh=>e h.symm)]
 | N+1,w,hn,hw,j,hj=>by
  have hne:w≠[]:=λe=>by rw[e] at hn;cases hn
  obtain⟨y,x,rfl⟩:∃ y x,w=y++[x]:=⟨w.dropLast,w.getLast hne,(List.dropLast_concat_getLast hne).symm⟩;have hx:=hw x (by simp)
  have ih:=Xl N y (by rw[jd,kC] at hn;omega) λq hq=>hw q (List.mem_append.2 (.inl hq))
  have hN:(ah [uj a]).n=(bn (ah [a])).length:=dN;rw[iq,pK (by rw[hN];exact hj),hN]
  unfold dV at ih ⊢;rw[List.foldl_append];show _=aW (λi=>_*(lD _ _ i (x.toNat-1)).getD j 0) _
  exact aF λi hi=>by rw[ih i hi,aI1 (by omega) hi hj]
theorem aI2 (ok:(ah [a]).Ok)(z:(ah [a]).Sz e)(hw:iy a.sym w):kQ (uj a) w=kQ a w:=by
 have hN:(ah [uj a]).n=(bn (ah [a])).length:=dN;have hw':iy (ah [a]).k w:=by rw[tY];exact hw
 have fin:∀ j,j<(bn (ah [a])).length->vf (ah [uj a]).fin j=kQ a ((bn (ah [a])).getD j []):=λj hj=>by
  show (((bn (ah [a])).map (kQ a))++[]).getD j 0=_
  rw[List.append_nil,a05 (d:=[]) hj]
 have e1:kQ (uj a) w=aW (λj=>dV (λi s j=>(lD (ah [a]) (bn (ah [a])) i s).getD j 0) (bn (ah [a])).length w j*kQ a ((bn (ah [a])).getD j [])) (bn (ah [a])).length:=by
  show mZ (ah [uj a]).n _ _=_
  unfold mZ;rw[hN];exact aF λj hj=>by rw[fin j hj,show vf (aZ (ah [uj a]) w) j=_ from Xl _ w rfl hw j hj]
 rw[e1];have nil:iy (ah [a]).k []:=λq hq=>by cases hq
 rcases Nat.eq_zero_or_pos (bn (ah [a])).length with h0|h0
 .obtain⟨c,_,h1⟩:=(Aj ok z).1.first.reach w hw'
  have h1:=h1 [] nil;unfold uG at h1;rw[h0] at h1 ⊢;rw[List.append_nil] at h1;exact h1.symm
 .have h:=Y6 ok z h0 _ w rfl hw' [] nil;rw[List.append_nil] at h;show _=kU (ah [a]) w
  rw[h];unfold uG;exact aF λj _=>by show _*kU _ _=_*kU _ (_++[]);rw[List.append_nil]
end
section
variable {m:gB}
abbrev aM (m:gB):Au:=dS m 2 3
theorem aX2:(ah [aM m]).k=2:=tY
theorem P6 (ok:(ah [aM m]).Ok)(z:(ah [aM m]).Sz 24):(bn (ah [aM m])).length<=3:=Nat.le_trans (Aj ok z).2 ad2
theorem J3 (ok:(ah [aM m]).Ok)(z:(ah [aM m]).Sz 24):(uj (aM m)).Sz 6 18:=by
 have h3:=P6 ok z;refine⟨λq hq=>?_,λq hq=>?_,λx hx=>?_,?_⟩
 .obtain⟨i,_,rfl⟩:=jH hq
  split
  .rw[yG];decide
  .rw[fH];decide
 .obtain⟨u,hu,rfl⟩:=jH hq;have hl:u.length<=2:=by have:=(Aj ok z).1.short u hu;omega
  have h:=UA (m:=m) (sym:=2) (w:=u) (by omega)
  exact h.sz (by decide +kernel) (by decide +kernel)
 .obtain⟨h1,h2,h5,h4⟩:=Xk (a:=aM m) (show 1<=2 by decide) x hx
  have e1:=FK (FI (dF (qV (ah [aM m]) (bn (ah [aM m]))))) hx h5;have hs:x.l-1<2:=by have:x.l<=2:=h4;omega
  rw[<- e1,vK,vK,JY (by rw[aX2];exact hs) h1 h2]
  exact aI0 ok z (by rw[aX2];decide) h1 (by rw[aX2];exact hs) h2
 .show (dF (dF (qV _ _))).length<=18
  have h1:=SN (dF (qV (ah [aM m]) (bn (ah [aM m]))));have h2:=SN (qV (ah [aM m]) (bn (ah [aM m])));have h4:(qV (ah [aM m]) (bn (ah [aM m]))).length=_:=JW (i:=(bn (ah [aM m])).length);rw[aX2] at h4;have h5:=Nat.mul_le_mul h3 (Nat.mul_le_mul_left 2 h3);omega
theorem aI3:∀ q,q ∈ (uj (aM m)).ini->sz q<=1:=λq hq=>by
 obtain⟨i,_,rfl⟩:=jH hq
 split
 .rw[yG];decide
 .rw[fH];decide
theorem Xm (ok:(ah [aM m]).Ok)(z:(ah [aM m]).Sz 24):(uj (aM m)).QR:=by
 have h3:=P6 ok z;have hz:=J3 ok z;refine⟨Nat.le_trans h3 (by decide),λq hq=>Nat.le_trans (hz.ini q hq) (by decide),λq hq=>Nat.le_trans (hz.fin q hq) (by decide),λs i j=>?_⟩
 by_cases hex:∃ y,y ∈ (uj (aM m)).aB/\y.f=i/\y.l=s+1/\y.t=j
 .obtain⟨y,hy,f1,f2,f3⟩:=hex;have e1:=FK (FI (dF (qV (ah [aM m]) (bn (ah [aM m]))))) hy (by omega)
  rw[f1,f2,f3,Nat.add_sub_cancel] at e1;show sz (iH (dF (dF (qV _ _))) s i j)<=24
  rw[e1];exact Nat.le_trans (hz.arc y hy) (by decide)
 .have:iH (uj (aM m)).aB s i j=0:=LW λy hy=>if_neg λh=>hex ⟨y,hy,h⟩;rw[this,fH];decide
end
end Go.AL
set_option linter.unusedSimpArgs false
namespace Go.Proofs.YtanlenlmihoiiaaGreatDoor
open Go Go.AL
noncomputable abbrev aN (m:gB):Au:=uj (dS m 2 3)
theorem ja {m:gB}:(ah [dS m 2 3]).Ok/\(ah [dS m 2 3]).Sz 24:=by
 obtain⟨ok,_,z6,_⟩:=EK (kW (m:=m)) (by decide)
 exact⟨ok,z6⟩
theorem ad4 {m:gB}:(aN m).st<=3:=P6 ja.1 ja.2
theorem yD {m:gB}:Au.Take (aN m) 2 :=
 ⟨⟨aX1 (show 1<=2 by decide),(J3 ja.1 ja.2).up (by decide) (by decide),rfl,(show 2<=32 by decide),Nat.le_trans ad4 (by decide)⟩,Xm ja.1 ja.2⟩
theorem aI4 {m:gB}:Au.Wt (aN m):=⟨yD.fit.ok,(J3 ja.1 ja.2).up (Nat.le_refl _) (by decide),(show 2<=32 by decide),yD.fit.st⟩
theorem UB {m:gB}{w:List Int}(hw:iy 2 w):kQ (aN m) w=kQ (dS m 2 3) w:=aI2 ja.1 ja.2 hw
theorem aX3 {m:gB}:uj (aN m)=aN m:=by
 obtain⟨ok,_,z6,_⟩:=EK (yD (m:=m)) (by decide)
 exact aH5 ok z6 ja.1 ja.2 rfl λw hw=>UB hw
theorem bv6 {m:gB}:ai P F.jL [uY (aN m)] (.oM [uY (aN m),.d (dI 0)]):=by
 have h:ai P F.jL [uY (aN m)] (.oM [uY (uj (aN m)),.d (dI 0)]):=PL yD (by decide) (by decide) (Nat.le_trans ad4 (by decide)) (Nat.le_trans (bd0 (aN m)) ad4)
 rw[aX3] at h;exact h
theorem aX4 {m:gB}:Au.Fit (oq (aN m) (-1)) 2:=by
 have t:=yD (m:=m);have z:=J3 (m:=m) ja.1 ja.2;refine⟨t.fit.ok.scale (-1),⟨λy hy=>?_,λy hy=>Nat.le_trans (z.fin y hy) (by decide),λx hx=>?_,Nat.le_trans (jJ _) (Nat.le_trans z.num (by decide))⟩,rfl,(show 2<=32 by decide),t.fit.st⟩
 .obtain⟨x,hx,rfl⟩:=jH hy;have h1:=jS x (-1);have h2:=z.ini x hx;have h3:sz (-1)<=1:=by rw[EY,yG];exact Nat.le_refl _
  show sz (x * -1)<=134217728
  omega
 .have h1:sz x.q<=((aN m).aB.length+1)*(6+2):=uF z.arc x hx;have hn:(aN m).aB.length<=18:=z.num;have h2:=Nat.mul_le_mul_right (6+2) (show (aN m).aB.length+1<=19 by omega)
  omega
theorem aI5 {m:gB}:(BB (dS m 2 3) (aN m)).Fw :=
 aC0 kW.fit.ok yD.fit.ok xZ (J3 ja.1 ja.2) (Xm ja.1 ja.2) aI3 rfl (show 2<=4 by decide) Hu.1 (by have:=Hu (m:=m);have:=ad4 (m:=m);omega)
theorem bh5 {m:gB}:eqA (dS m 2 3) (aN m)=none:=(ax7 kW.fit.ok yD.fit.ok rfl).2 λw hw=>(UB hw).symm
theorem ad5 {m:gB}{w:List Int}(hl:w.length<=4):sz (kQ (dS m 2 3) w)<=68719476736 :=
 Nat.le_trans ((UA (m:=m) (sym:=2) (w:=w) (by omega)).sz (t:=3) (by decide +kernel) (by decide +kernel)) (by decide)
theorem aI6 {m:gB}{w:List Int}(hw:iy 2 w)(hl:w.length<=4):ai P F.xe [vQ (kQ (dS m 2 3) w),vQ (kQ (aN m) w)] (.d (dB true)):=by
 rw[UB hw];have h:=GI (p:=kQ (dS m 2 3) w) (q:=kQ (dS m 2 3) w) (ad5 hl) (ad5 hl);rw[decide_eq_true rfl] at h;exact h
theorem aI7 {m:gB}:(aN m).st=VL (dS m 2 3):=(wds m).pl
set_option maxRecDepth 8000 in
set_option maxHeartbeats 3200000 in
theorem Dn {m:gB}{e:Bool}{l:List Int}(ha1:m.ini.length<=9223372036854775807)(ha2:m.fin.length<=9223372036854775807)(ha3:m.aB.length<=9223372036854775807)(nl:l.length<=9223372036854775807):ai P F.jO [Un m e,.d (ints l)] (.d (dB true)):=by
 have hw:iy 2 (yC l 2 4):=aE4 (by decide)
 have hl:(yC l 2 4).length<=4:=by rw[KW];omega
 refine ai.intro fn.jO (by rfl) (by rfl) (au (by rfl)) λE hE=>(AW.sg hE rfl (iG rfl rfl λb2=>(aG rfl (OL.nil (AW.sg hE rfl (aQ ag.Model rfl rfl (vs:=[_,_,_,_,_]) rfl (au rfl) (bP rfl vL (vC (m:=m) ha1 ha2 ha3) ?_)))))))
 refine aj rfl (bP rfl vL (bs7 (l:=l) (sym:=2) (most:=4) (by decide) (by decide) nl) (al z.Auto rfl λb5=>(eG sz.Auto rfl rfl rfl rfl rfl (au rfl) (cells2:=[_,_,_,_,_,_,_]) rfl (aG rfl (OL.nil (AW.sg hE rfl (aQ ag.Auto rfl rfl (vs:=[_,_,_,_,_,_,_]) rfl (au rfl) ?_)))))))
 refine bP rfl vL (bG6 (m:=m)) (ES rfl (ex rfl rfl (ex rfl rfl (al z.Auto rfl λb7=>(eG sz.Auto rfl rfl rfl rfl rfl (au rfl) (cells2:=[_,_,_,_,_,_,_]) rfl (aG rfl (OL.nil ?_)))))));refine AW.sg hE rfl (aQ ag.Auto rfl rfl (vs:=[_,_,_,_,_,_,_]) rfl (au rfl) (bP rfl vL (bv6 (m:=m)) (ES rfl (ex rfl rfl (ex rfl rfl (al z.Auto rfl λb9=>(eG sz.Auto rfl rfl rfl rfl rfl (au rfl) (cells2:=[_,_,_,_,_,_,_]) rfl ?_)))))));refine aG rfl (OL.nil (AW.sg hE rfl (aQ ag.Auto rfl rfl (vs:=[_,_,_,_,_,_,_]) rfl (au rfl) (bP rfl vL (aV3 (a:=(dS m 2 3)) aW6) (ES rfl (ex rfl rfl (ex rfl rfl ?_)))))));refine aG rfl (aG rfl (OL.nil (AW.sg hE rfl (aQ ag.Auto rfl rfl (vs:=[_,_,_,_,_,_,_]) rfl (au rfl) (aj rfl (bP rfl vL (WS (a:=(dS m 2 3)) (w:=(yC l 2 4)) PN hw hl) (ES rfl ?_)))))));refine ex rfl rfl (ex rfl rfl (al z.ay rfl λb13=>(eG sz.ay rfl rfl rfl rfl rfl (au rfl) (cells2:=[_,_,_,_,_,_,_,_]) rfl (aG rfl (OL.nil (AW.sg hE rfl (aQ ag.Auto rfl rfl (vs:=[_,_,_,_,_,_,_]) rfl (au rfl) ?_)))))));refine aj rfl (bP rfl vL (WS (a:=aN m) (w:=(yC l 2 4)) aI4 hw hl) (ES rfl (ex rfl rfl (ex rfl rfl (al z.ay rfl λb15=>(eG sz.ay rfl rfl rfl rfl rfl (au rfl) (cells2:=[_,_,_,_,_,_,_,_]) rfl (aG rfl ?_)))))));refine OL.nil (AW.sg hE rfl (aQ ag.Auto rfl rfl (vs:=[_,_,_,_,_,_,_]) rfl (au rfl) (aQ ag.Auto rfl rfl (vs:=[_,_,_,_,_,_,_]) rfl (au rfl) (bP rfl vL (aH0 (a:=(dS m 2 3)) (b:=aN m) kW PN yD aI4 aX4 aI5) ?_))));rw[bh5];refine ES rfl (ex rfl rfl (ex rfl rfl (ex rfl rfl (aG rfl (aG rfl (aG rfl (OL.nil ?_)))))));refine AW.sg hE rfl (bP rfl (.nil) (vF) (aj rfl (OL.yes rfl (aj rfl (OL.yes rfl (fE rfl rfl (c:=true) (decide_eq_true rfl) (nJ rfl rfl ?_)))))));refine aj rfl (OL.yes rfl (aj rfl (OL.yes rfl (fE rfl rfl (c:=true) (decide_eq_true rfl) (nJ rfl rfl (aj rfl (OL.yes rfl ?_)))))));refine aj rfl (OL.yes rfl (fE rfl rfl (c:=true) (decide_eq_true rfl) (nJ rfl rfl (aj rfl (OL.yes rfl (aj rfl (OL.yes rfl ?_)))))));refine fE rfl rfl (c:=true) (decide_eq_true rfl) (nJ rfl rfl (aj rfl (OL.yes rfl (aj rfl (nJ rfl rfl (aj rfl (OL.yes rfl ?_)))))));refine aV fd.gG rfl rfl (OL.yes rfl (aQ ag.Rat rfl rfl (vs:=[_,_,_]) rfl (au rfl) (OL.yes rfl (aV fd.gG rfl rfl (OL.yes rfl (aQ ag.Rat rfl rfl (vs:=[_,_,_]) rfl (au rfl) (OL.yes rfl ?_)))))));refine bP rfl vL (aI6 (m:=m) hw hl) (nJ rfl rfl (aj rfl (OL.yes rfl (aV fd.jf rfl rfl (OL.yes rfl (aA ce.int rfl rfl rfl (OL.yes rfl ?_)))))));refine aj rfl (OL.yes rfl (fE rfl rfl (c:=true) (decide_eq_true (congrArg (λn:Nat=>(n:Int)) (aI7 (m:=m)))) (nJ rfl rfl (aj rfl (OL.yes rfl (aQ ag.Auto rfl rfl (vs:=[_,_,_,_,_,_,_]) rfl (au rfl) (OL.yes rfl ?_)))))));exact aQ ag.Auto rfl rfl (vs:=[_,_,_,_,_,_,_]) rfl (au rfl) (OL.yes rfl (bP rfl vL (bg8 (v:=true) ⟨λ_=>rfl,λ_=>rfl⟩ (Xj (m:=m)) Xj rfl) (nJ rfl rfl (aG rfl (OL.nil (AW.ret (aT.r ⟨_,.tmp rfl .nil,.le vR⟩)))))))
end Go.Proofs.YtanlenlmihoiiaaGreatDoor
namespace Go.AL
open Go Go.BigFrame Go.RowKit Go.ChangeShapes Go.WideShapes Go.ChangeAt Go.Joins Go.Deep
theorem bh6 {α:Type}{cs:Array α}(h:cs.size=5):∃ c0 c1 c2 c3 c4,cs = #[c0,c1,c2,c3,c4]:=by
 obtain⟨l⟩:=cs
 match l,h with
 | [c0,c1,c2,c3,c4],_=>exact⟨c0,c1,c2,c3,c4,rfl⟩
section
variable {H:Type}{enc:TypeId × Value->H}{P:Program}{w:World}{base:Nat}{spare:Nat->Bool}{held:Bool}
theorem UC {t:TypeId}{f0 f1 f2 f3 f4:Field}{fuel:Nat}{cs:List Value}{x:DataW H × List MemPlace}(ht:P.underlying t=some (.struct #[f0,f1,f2,f3,f4]))(h:DataW.trod enc P w base spare held fuel t cs=some x) :
  ∃ y0 y1 y2 y3 y4 n,x=(.agg [y0.1,y1.1,y2.1,y3.1,y4.1],y0.2++(y1.2++(y2.2++(y3.2++y4.2))))/\cs.length=P.cellsOf t/\DataW.trod enc P w base spare held n f0.type ((cs.drop f0.offset).take (P.cellsOf f0.type))=some y0 /\
   DataW.trod enc P w base spare held n f1.type ((cs.drop f1.offset).take (P.cellsOf f1.type))=some y1/\DataW.trod enc P w base spare held n f2.type ((cs.drop f2.offset).take (P.cellsOf f2.type))=some y2 /\
   DataW.trod enc P w base spare held n f3.type ((cs.drop f3.offset).take (P.cellsOf f3.type))=some y3/\DataW.trod enc P w base spare held n f4.type ((cs.drop f4.offset).take (P.cellsOf f4.type))=some y4:=by
 obtain⟨xs,n,_,rfl,hl,hlen,hf⟩:=DataW.trod_struct ht h
 match xs,hlen with
 | [y0,y1,y2,y3,y4],_=>exact⟨y0,y1,y2,y3,y4,n,by simp,hl,by simpa using hf 0 f0 rfl,by simpa using hf 1 f1 rfl,by simpa using hf 2 f2 rfl,by simpa using hf 3 f3 rfl,by simpa using hf 4 f4 rfl⟩
theorem an0 {r:Reach}{b0:Nat}{t:TypeId}{f0 f1 f2 f3 f4:Field}{v:Value}{d:DataW H}{p:List MemPlace}(hs:P.underlying t=some (.struct #[f0,f1,f2,f3,f4]))(hone:oneCellFields P #[f0,f1,f2,f3,f4]=true)(hC:P.cellsOf t=5)
  (hv:Value.okWide P w r b0 t v) (h:DataW.Trod enc P w base spare held t v d p) :
  ∃ (v0 v1 v2 v3 v4:Value) (y0 y1 y2 y3 y4:DataW H × List MemPlace) (n:Nat),v=.agg #[v0,v1,v2,v3,v4] /\
   DataW.trod enc P w base spare held n f0.type [v0]=some y0/\DataW.trod enc P w base spare held n f1.type [v1]=some y1/\DataW.trod enc P w base spare held n f2.type [v2]=some y2/\DataW.trod enc P w base spare held n f3.type [v3]=some y3/\DataW.trod enc P w base spare held n f4.type [v4]=some y4:=by
 obtain⟨cs,rfl,hsz⟩:=okWide_struct hs hv;obtain⟨c0,c1,c2,c3,c4,rfl⟩:=bh6 (hsz.trans hC);obtain⟨fuel,hf⟩:=h;obtain⟨y0,y1,y2,y3,y4,n,hx,_,h0,h1,h2,h3,h4⟩:=UC hs hf;obtain⟨o0,k0⟩:=hone_of hone 0 f0 rfl;obtain⟨o1,k1⟩:=hone_of hone 1 f1 rfl;obtain⟨o2,k2⟩:=hone_of hone 2 f2 rfl;obtain⟨o3,k3⟩:=hone_of hone 3 f3 rfl;obtain⟨o4,k4⟩:=hone_of hone 4 f4 rfl;exact⟨c0,c1,c2,c3,c4,y0,y1,y2,y3,y4,n,rfl,by simpa [Value.cells,o0,k0] using h0,by simpa [Value.cells,o1,k1] using h1,by simpa [Value.cells,o2,k2] using h2,by simpa [Value.cells,o3,k3] using h3,by simpa [Value.cells,o4,k4] using h4⟩
end
theorem an1 {P:Program}{H:Type}{enc:TypeId × Value->H}{w:World}{base fuel:Nat}{spare:Nat->Bool}{held:Bool}{t:TypeId}{v:Value}{x:DataW H × List MemPlace}(ht:P.underlying t=some .bool)
  (h:DataW.trod enc P w base spare held fuel t [v]=some x):∃ b,v=.bool b:=by
 obtain⟨b,h1,_⟩:=DataW.trod_bool ht h;simp at h1;exact⟨b,h1⟩
theorem an2 {F:Hp}{u0 u1 u2 u3 u4:Value}{x0 x1 x2 x3 x4:D}(h0:dG F u0 (.d x0))(h1:dG F u1 (.d x1))(h2:dG F u2 (.d x2))(h3:dG F u3 (.d x3))(h4:dG F u4 (.d x4)):dG F (.agg #[u0,u1,u2,u3,u4]) (.ag [.d x0,.d x1,.d x2,.d x3,.d x4]):=by
 have h:=uS h0 (uS h1 (uS h2 (uS h3 (uS h4 QG))));refine .ag (us:=[u0,u1,u2,u3,u4]) h.1 (λu hu=>?_) h.2;simp only[List.mem_cons,List.not_mem_nil,or_false] at hu;rcases hu with rfl|rfl|rfl|rfl|rfl
 .exact h0.one
 .exact h1.one
 .exact h2.one
 .exact h3.one
 .exact h4.one
