/-
  Walks of package hmm: Emitting of a valid model with silent states, its ties too (printed by mk2.py).
-/
import Derived.Test.YteiohkpjgcioaaaGreatDoorKHoE
set_option linter.unusedVariables false
set_option linter.unusedSimpArgs false
namespace Go.Proofs.YteiohkpjgcioaaaGreatDoor
open Go Go.AL
def JR (tz:List Nat)(x:Nat)(v:Int):Prop:=∃ p:Nat,v=(p:Int)/\p<tz.length/\tz.getD p 0=x
def H7 (h:HM)(z:List Int):Prop:=z.length=(bD h).length/\(∀ i,i<(bD h).length->0<=z.getD i 0/\z.getD i 0<(bD h).length)/\∀ i j,i<(bD h).length->j<i->z.getD i 0=z.getD j 0->Iy h ((bD h).getD i 0)=Iy h ((bD h).getD j 0)
theorem ag4 {o:List Nat}{n:Nat}(hl:o.length=n)(hn:1<=n):TP (sQ Hr (n-1) o):=by
 have h:=Q5 (c:=Hr) (λx y h=>by unfold Hr at h ⊢;exact decide_eq_false (by have:=jC h;omega)) (k:=n-1) (o:=o) (by omega)
 have hlen:=xA Hr (n-1) o;have key:∀ d p,p+d<(sQ Hr (n-1) o).length->(sQ Hr (n-1) o).getD p 0<=(sQ Hr (n-1) o).getD (p+d) 0:=λd p=>by
  induction d with
  | zero=>intro _;exact Nat.le_refl _
  | succ d ih =>
   intro hd;have h1:=h (p+d) (by omega)
   have h2:=ih (by omega)
   have h3:¬ (((sQ Hr (n-1) o).getD (p+d+1) 0:Nat):Int)<(((sQ Hr (n-1) o).getD (p+d) 0:Nat):Int):=kK h1;rw[show p+(d+1)=p+d+1 by omega]
   omega
 intro p q hpq hq;obtain⟨d,rfl⟩:∃ d,q=p+d:=⟨q-p,by omega⟩
 exact key d p hq
theorem aJ0 {l:List Nat}(h:bb4 l):TP l:=λp q h1 h2=>by
 rcases Nat.lt_or_ge p q with c|c
 .exact Nat.le_of_lt (h p q c h2)
 .rw[show p=q by omega];exact Nat.le_refl _
theorem aw9 {o tz:List Nat}{n:Nat}(hl:o.length=n)(hn:1<=n)(e:tz=Iz (sQ Hr (n-1) o) n):TP tz/\tz.length<=n/\∀ x,x ∈ o->x ∈ tz:=by
 have ha:=ag4 hl hn;have hs:=xA Hr (n-1) o;refine⟨by rw[e];exact aJ0 (ZC ha (by omega)),by rw[e];exact ZB ..,λx hx=>?_⟩
 obtain⟨p,hp,rfl⟩:=bb5 ((Ph Hr (k:=n-1) (o:=o) (by omega)).mem_iff.2 hx)
 rw[e];exact TQ p (by omega)
theorem TR {tz:List Nat}{f:Nat->Nat}{zs:List Int}{i p:Nat}(hl:zs.length=i)(h:∀ j,j<i->JR tz (f j) (zs.getD j 0))(hp:p<tz.length/\tz.getD p 0=f i):∀ j,j<i+1->JR tz (f j) ((zs++[(p:Int)]).getD j 0):=λj hj=>by
 rcases Nat.lt_or_ge j i with c|c
 .rw[mM (by omega)];exact h j c
 .obtain rfl:j=i:=by omega
  rw[mO hl.symm];exact⟨p,rfl,hp⟩
theorem ax0 {h:HM}{tz:List Nat}{zs:List Int}(hl:zs.length=(bD h).length)(ht:tz.length<=(bD h).length)(hp:∀ j,j<(bD h).length->JR tz (Iy h ((bD h).getD j 0)) (zs.getD j 0)):H7 h zs:=by
 refine⟨hl,λi hi=>?_,λi j hi hj e=>?_⟩
 .obtain⟨p,e,hp,_⟩:=hp i hi;rw[e];omega
 .obtain⟨p,e1,_,q1⟩:=hp i hi;obtain⟨p2,e2,_,q2⟩:=hp j (by omega)
  rw[<- q1,<- q2];congr 1;rw[e1,e2] at e;omega
set_option maxRecDepth 16000 in
set_option maxHeartbeats 12800000 in
theorem ax1 {h : HM} {O : List Nat} {B : Nat} (f : h.oh) (sm : h.Me) (rk : h.ql) (td : h.PZ) (o : He h O) (zE : sz h.empty <= B) (zI : Small B h.ini) (zT : ∀ i, Small B (h.trans.getD i [])) (zS : Small B h.stop) (zM : ∀ i, Small B (h.emit.getD i [])) (hb1 : 1 <= B) (hB : O4 B h.st <= 1048576) (hn : 1 <= (bD h).length) : jv P F.jV [uY h] jm (λz : List Int => .jM [uY (kW h O z), .d (dI 0)]) (λ_ => jm) (λz => H7 h z) := by
 have n0:=f.st0;have n1:=f.st1;have s1:=f.sZ;have e1:=f.ini;have e2:=f.trans;have e3:=f.stop;have e4:=f.emit;have e5:=f.ties;have e6:=f.yJ;have hll:=MN (h:=h);have hBm:B<=O4 B h.st:=Aw (m:=0) (Nat.zero_le _);have ri:=TK (O:=O) f sm o zT zS hb1 f.ini f.pI f.pE zI zE sm.i;have rr:∀ i,i<h.st->Yd h (O4 B h.st) (wI h O i):=λi hi=>TK f sm o zT zS hb1 (f.x9 i hi) (f.pT i) (f.pS.get i) (zT i) (zS.get hb1 i) (sm.t i hi);have g2:(kW h O []).trans.length=(bD h).length:=dF ..;have g3:(kW h O []).stop.length=(bD h).length:=dF ..;have g4:(kW h O []).emit.length=(bD h).length:=dF ..;have gT:∀ i,i<(bD h).length->(kW h O []).trans.getD i []=JV h (wI h O ((bD h).getD i 0)).1:=λk hk=>Ef (d:=0) hk;have gS:∀ i,i<(bD h).length->(kW h O []).stop.getD i 0=(wI h O ((bD h).getD i 0)).2:=λk hk=>Ef (d:=0) hk;have gM:∀ i,i<(bD h).length->(kW h O []).emit.getD i []=h.emit.getD ((bD h).getD i 0) []:=λk hk=>Ef (d:=0) hk;refine jv.intro fn.jV (by rfl) (by rfl) (au (by rfl)) λE hE=>(AW.sg hE rfl (iC rfl rfl λb1=>(al z.aU rfl λb2=>(ay rfl (OL.nil (AW.seq (AW.sg hE rfl ?_)))))))
 refine aG ag.aU rfl rfl (vs:=[_,_,_,_,_,_,_,_,_,_,_]) rfl (au rfl) (aY rfl vL (En f sm rk td) (ay rfl (OL.nil (AW.sg hE rfl (ah rfl (bU rfl rfl (c:=false) (by exact eF (by omega)) (OL.nil ?_)))))))
 refine jD rfl ?_;refine AW.skip (AW.seq (AW.oz (by rw[hE];rfl) (SK.dG (aG ag.aU rfl rfl (vs:=[_,_,_,_,_,_,_,_,_,_,_]) rfl (au rfl) (OL.nil ?_)))))
 refine SK.G5 (SO.Ey (args':=[uY h]) (show 28<E.n by rw[hE];exact Nat.le_of_ble_eq_true (by rfl)) rfl .bC (Mc:=jm) (λ_ _ h=>by cases h) (O7 f rk) (λ_ _ _ h=>h) ?_)
 rintro O2 o2
 refine SK.dG (BN rfl (OL.nil ?_));refine SK.dG (ex rfl rfl (OL.nil ?_));refine SK.dG (ex rfl rfl (OL.nil ?_));refine SK.dG (ay rfl (OL.nil ?_));refine SK.dG (ay rfl (OL.nil ?_));refine SK.nil ?_;have o2:He h O2:=o2;have hO2:∀ k,k ∈ O2->k<h.st:=λk hk=>((o2.sil k).1 hk).1;refine AW.sg hE rfl (al z.ints rfl λb7=>(OL.nil (AW.sg hE rfl (oq rfl (OL.nil (AW.seq (AW.sg hE rfl ?_)))))));refine aF fd.bQ rfl rfl (ak ce.int rfl rfl rfl (ah rfl (OL.nil (AW.block (AW.vC 7 [.bJ 45 0 0 0] rfl (.cons aZ.Ub .nil) (AW.row0 45 T.int 1 rfl (AW.own 8 53 T.int 1 rfl rfl ?_)))))));refine AW.aK (α:=Nat × Nat × Nat × Nat × Nat) [(1,_),(2,_),(3,_),(5,_),(7,_),(32,_)] [(1,_),(2,_)] (λ(i,p1,c1,p2,c2)=>[(8,.bJ 53 p2 (FT h i).length c2),(33,.d (dI i))]) (λ(i,p1,c1,p2,c2)=>[(7,.box b7 T.ints [.bJ 45 p1 (FT h i).length c1]),(45,.row p1 c1 T.int 1 ((FT h i).map λk:Nat=>dI (k:Int))),(53,.row p2 c2 T.int 1 (((FT h i).map (Iy h)).map dN))]) (λ(i,p1,c1,p2,c2)=>i<=h.st) (λ(i,p1,c1,p2,c2)=>h.st-i) (0,0,0,0,0) (.cons (fG rfl) (.cons (fG rfl) (.cons (bM rfl) (.cons (bM rfl) (.cons (fG rfl) (.cons (bM rfl) .nil)))))) (.cons (iJ rfl) (.cons (iJ rfl) .nil)) ⟨Nat.zero_le _,.dR,.cons rfl (.cons rfl (.cons rfl .nil))⟩ ?_
 rintro⟨i,p1,c1,p2,c2⟩ h1
 have h1:i<=h.st:=h1;have hfn:=aw4 (h:=h) (i:=i);refine AW.sg hE rfl (aN rfl rfl rfl (OL.nil (AW.seq (AW.cond rfl (λh34=>?_) (λh34=>?_)))))
 .try simp only[bY] at h34
  refine AW.skip (AW.seq (AW.block (AW.sg hE rfl (ah rfl (ay rfl (OL.nil (AW.seq ?_)))))));have hi:i<h.st:=by omega
  have hti:=f.tie i hi;have htd:=Q8 hti.1;refine AW.rg hE rfl (aF fd.bZ rfl rfl (ak ce.bools rfl rfl rfl (ah rfl (bg sl.bools false rfl rfl (by omega) rfl rfl (bP ce.bool rfl (nt rfl (OL.nil ?_)))))))
  refine AW.cond rfl (λhs=>?_) (λhs=>?_)
  .have hs:h.silent.getD i false=false:=by simpa using hs
   refine AW.dg 2 [0,1,2,4,5,6,7,8,9,10,3,11,12,13] aj hE rfl (by kernel_rfl) (OI.aP (os:=[_,_,_,_,_,_,_,_,_,_,_,_,_,_]) rfl ?_)
   refine ak ce.ints rfl rfl rfl (ah rfl (tC (y:=dI i) sl.ints (VC.d _).vd rfl (by decide) (fQ rfl (aF fd.fF rfl rfl (ak ce.ints rfl rfl rfl (ah rfl (bg sl.ints 0 rfl rfl (by omega) rfl rfl ?_)))))))
   refine bP ce.int rfl (tC (y:=dI (h.ties.getD i 0)) sl.ints (VC.d _).vd rfl (by decide) ?_)
   refine yG sl.ints rfl rfl rfl (by rw[dF]) (VC.d _) (λy hy=>by rw[qm hy];rfl) (by simp only[nN];omega) (by simp only[nN];omega) (.inr rfl) (ys:=(FT h i++[i]).map λk:Nat=>dI (k:Int)) (by rw[List.map_append];rfl) (n2:=(FT h i).length+1) (rfl) λb45 c45=>?_
   refine yG sl.ints rfl rfl rfl (by rw[dF,dF]) (VC.d _) (λy hy=>by rw[qm hy];rfl) (by simp only[nN];omega) (by simp only[nN];omega) (.inr rfl) (ys:=((FT h i++[i]).map (Iy h)).map dN) (by rw[List.map_append,List.map_append,htd];rfl) (n2:=(FT h i).length+1) (rfl) λb53 c53=>?_
   refine dA sz.ints rfl rfl rfl rfl rfl (au rfl) (cells2:=[_]) rfl (uj rfl (OL.nil (AW.rg hE rfl (aB rfl rfl (by omega) (ah rfl (OL.nil ?_))))))
   exact AW.again (x:=(i,p1,c1,p2,c2)) (i+1,b45,c45,b53,c53) (by (simp only[];omega)) ⟨by omega,Knows.app .Lj (.cons (by rw[TM hs,jT];exact aZ.refl _) .bC),bn.app (.cons rfl (.cons rfl .nil)) (.cons (by rw[TM hs,jT];rfl) (.cons (by rw[TM hs];rfl) (.cons (by rw[TM hs];rfl) .nil)))⟩
  .have hs:h.silent.getD i false=true:=by simpa using hs
   refine AW.skip (AW.rg hE rfl (aB rfl rfl (by omega) (ah rfl (OL.nil ?_))))
   exact AW.again (x:=(i,p1,c1,p2,c2)) (i+1,p1,c1,p2,c2) (by (simp only[];omega)) ⟨by omega,Knows.app .Lj (.cons (by rw[TN hs];exact aZ.refl _) .bC),bn.app (.cons rfl (.cons rfl .nil)) (.cons (by rw[TN hs];rfl) (.cons (by rw[TN hs];rfl) (.cons (by rw[TN hs];rfl) .nil)))⟩
 .try simp only[bY] at h34
  refine AW.exit (AW.seq (AW.seq ?_));obtain rfl:i=h.st:=by omega
  dsimp only
  rw[show FT h h.st=bD h from rfl]
  refine AW.rename 53 1000 rfl (AW.rg hE rfl (ak ce.ints rfl rfl rfl (WI sl.ints rfl rfl (dm rfl rfl (c:=false) (decide_eq_false (by show ¬ (((bD h).length:Int)=0);omega)) (OL.nil (jD rfl ?_))))))
  refine AW.skip (AW.sg hE rfl (fQ rfl (OL.qo (v:=.jM []) (.mk (args':=[.bJ 1000 p2 (bD h).length c2]) rfl (.cons aZ.bJ .nil) (bH (id:=1000) (blk:=.row p2 c2 T.int 1 (((bD h).map (Iy h)).map dN)) rfl) gy (ba9 (by rw[dF]) ⟨hn,by omega⟩)) (OL.nil (AW.seq (AW.oz (by rw[hE];rfl) (SK.dG (fQ rfl (OL.nil ?_)))))))))
  refine SK.G5 (SO.Ey (args':=[.bJ 1000 p2 (bD h).length c2]) (show 62<E.n by rw[hE];exact Nat.le_of_ble_eq_true (by rfl)) rfl (.cons aZ.bJ .nil) (Mc:=mem1 1000 (.row p2 c2 T.int 1 ((sQ Hr ((bD h).length-1) ((bD h).map (Iy h))).map dN))) (bH rfl) (aw8 (by rw[xA,dF]) (by omega)) (λ_ _ _ _=>rfl) ?_)
  rintro tz htz
  obtain⟨htA,bb6,htM⟩:=aw9 (o:=((bD h).map (Iy h))) (by rw[dF]) hn htz
  refine SK.dG (ay rfl (OL.nil ?_));refine SK.nil (AW.seq ?_);refine AW.freeze 45 rfl (AW.vC 7 [.d (dNs (bD h))] rfl (.cons (dP (by rw[dF]) rfl) .nil) (AW.BV 7 [(dNs (bD h))] rfl (VCs.Uh [(dNs (bD h))]) (AW.to [(7,.ref [(dNs (bD h))]),(1,_),(2,_),(5,_),(8,.d (.sl (tz.map dN)))] [(1,_),(2,_)] (.cons (aI (show V.WO 7 b7 [(dNs (bD h))] (.ptr 7 b7 0)=.ref [(dNs (bD h))] from E5)) (by repeat (first|exact Knows.nil|refine Knows.cons (by first|exact bM rfl|exact knA rfl|exact fG rfl|exact uH rfl|exact zi rfl|exact knE rfl|exact knR rfl|exact EM rfl|exact knT rfl|exact knI rfl|exact knB rfl|exact Xr) ?_))) (by repeat (first|exact bn.nil|refine bn.cons (iJ rfl) ?_)) ?_)))
  refine AW.rg hE rfl (mkF (vs:=[_]) rfl (asF rfl (OL.nil (AW.seq (AW.dg 144 [0,1,2,3,4,5,6,7,8,9] aj hE rfl (by kernel_rfl) (OI.aP (os:=[_,_,_,_,_,_,_,_,_,_]) rfl ?_))))))
  refine aF fd.jL rfl rfl (ak ce.int rfl rfl rfl (bP ce.ints rfl (eH (f:=λk:Nat=>dI (k:Int)) sl.ints rfl rfl (bP ce.ints rfl (eH (f:=λk:Nat=>dI (k:Int)) sl.ints rfl rfl (bh6 (n:=(bD h).length) (cp:=(bD h).length) dB false sl.bools z.bool (VCs.cons (VC.d _) VCs.nil) rfl rfl (Nat.le_refl _) (by omega) (by omega) rfl rfl λb70=>(WL (cs:=[_,_,_,_,_,_,_,_,_,_,_]) z.aU pl.aU (qA (by exact AX rfl) (qA (by exact AX rfl) (qA (by exact evO rfl) (WJ)))) (by rfl) ?_)))))))
  refine al z.aU rfl λb11=>(dA sz.aU rfl rfl rfl rfl rfl (au rfl) (cells2:=[_,_,_,_,_,_,_,_,_,_,_]) rfl (OL.nil (AW.sg hE rfl (aG ag.aU rfl rfl (vs:=[_,_,_,_,_,_,_,_,_,_,_]) rfl (au rfl) (ah rfl (aF fd.fO rfl rfl (ak ce.aQ rfl rfl rfl ?_)))))));refine aF fd.gZ rfl rfl (aG ag.Rat rfl rfl (vs:=[_,_,_]) rfl (au rfl) (aY rfl .CZ (Wi (l:=h.ini) (e:=h.empty) f zT zS hb1 hB e1 hO2 o2.len zI zE) ?_));rw[V8 o2 o e1,show uX h O (h.ini,h.empty)=FP h O from rfl]
  refine BN rfl (ex rfl rfl (ex rfl rfl (al z.Rat rfl λb13=>(ay rfl (dA sz.Rat rfl rfl rfl rfl rfl (au rfl) (cells2:=[_,_,_]) rfl (OL.nil ?_))))));refine AW.AP (α:=Unit) [(1,_),(2,_),(3,_),(5,_),(7,_),(8,_),(10,_),(11,_)] [(1,_),(2,_)] (λ_u=>[]) (λ_u=>[(11,.box b11 T.aU [.d (dI h.sym),.d (dI (bD h).length),.d (dB (eU (kW h O []).empty).neg),.d (aC (eU (kW h O []).empty).num),.d (aC (eU (kW h O []).empty).den),.d (o9 (kW h O []).ini),.mt,.mt,.mt,.bJ 70 b70 (bD h).length (bD h).length,.mt]),(70,.row b70 (bD h).length T.bool 1 ((List.replicate (bD h).length false).map dB))]) (λ_u=>True) (.cons (fG rfl) (.cons (fG rfl) (.cons (Xr) (.cons (bM rfl) (.cons (knR rfl) (.cons (bM rfl) (.cons (EM rfl) (.cons (fG rfl) .nil)))))))) (.cons (iJ rfl) (.cons (iJ rfl) .nil)) ?_ ?_
  .refine AW.Lr aj (by rw[hE];rfl) (OT.node [0,1,3] (os:=[_,_,_]) (by kernel_rfl) (by decide) rfl ⟨?_,?_,?_,trivial⟩)
   .refine EL rfl (OL.nil (OT.node [1,3] (os:=[_,_]) (by kernel_rfl) (by decide) rfl ⟨?_,?_,trivial⟩))
    .refine ah rfl (OL.nil (OT.node [2,3] (os:=[_,_]) (by kernel_rfl) (by decide) rfl ⟨?_,?_,trivial⟩))
     .refine aY rfl vL (JQ (h:=h) (l:=(FP h O).1) (sK e1) n1) (OL.nil (OT.node [3,4] (os:=[_,_]) (by kernel_rfl) (by decide) rfl ⟨?_,?_,trivial⟩))
      .refine aG ag.Rat rfl rfl (vs:=[_,_,_]) rfl (au rfl) (OL.nil (OT.node [4] (os:=[_]) (by kernel_rfl) (by decide) rfl ⟨?_,trivial⟩))
       refine aF fd.fO rfl rfl (OL.nil (OT.node [5] (os:=[_]) (by kernel_rfl) (by decide) rfl ⟨?_,trivial⟩))
       refine dA sz.aQ rfl rfl rfl rfl rfl (au rfl) (cells2:=[_,_,_,_,_,_,_,_,_,_,_]) rfl (OL.nil (OT.node [6] (os:=[_]) (by kernel_rfl) (by decide) rfl ⟨?_,trivial⟩))
       refine aF fd.gZ rfl rfl (OL.nil (OT.node [7] (os:=[_]) (by kernel_rfl) (by decide) rfl ⟨?_,trivial⟩))
       refine dA sz.Rat rfl rfl rfl rfl rfl (au rfl) (cells2:=[_,_,_,_,_,_,_,_,_,_,_]) rfl (OL.nil (OT.leaf (by kernel_rfl) ?_))
       exact AW.reach () ⟨trivial,Knows.app .Ny (.nil),bn.app (.cons rfl (.cons rfl .nil)) (.cons rfl (.cons rfl .nil))⟩
      .refine aF fd.fO rfl rfl (OL.nil (OT.node [3,5] (os:=[_,_]) (by kernel_rfl) (by decide) rfl ⟨?_,?_,trivial⟩))
       .refine aG ag.Rat rfl rfl (vs:=[_,_,_]) rfl (au rfl) (OL.nil (OT.node [5] (os:=[_]) (by kernel_rfl) (by decide) rfl ⟨?_,trivial⟩))
        refine dA sz.aQ rfl rfl rfl rfl rfl (au rfl) (cells2:=[_,_,_,_,_,_,_,_,_,_,_]) rfl (OL.nil (OT.node [6] (os:=[_]) (by kernel_rfl) (by decide) rfl ⟨?_,trivial⟩))
        refine aF fd.gZ rfl rfl (OL.nil (OT.node [7] (os:=[_]) (by kernel_rfl) (by decide) rfl ⟨?_,trivial⟩))
        refine dA sz.Rat rfl rfl rfl rfl rfl (au rfl) (cells2:=[_,_,_,_,_,_,_,_,_,_,_]) rfl (OL.nil (OT.leaf (by kernel_rfl) ?_))
        exact AW.reach () ⟨trivial,Knows.app .Ny (.nil),bn.app (.cons rfl (.cons rfl .nil)) (.cons rfl (.cons rfl .nil))⟩
       .refine dA sz.aQ rfl rfl rfl rfl rfl (au rfl) (cells2:=[_,_,_,_,_,_,_,_,_,_,_]) rfl (OL.nil (OT.node [3] (os:=[_]) (by kernel_rfl) (by decide) rfl ⟨?_,trivial⟩))
        refine aG ag.Rat rfl rfl (vs:=[_,_,_]) rfl (au rfl) (OL.nil (OT.node [6] (os:=[_]) (by kernel_rfl) (by decide) rfl ⟨?_,trivial⟩))
        refine aF fd.gZ rfl rfl (OL.nil (OT.node [7] (os:=[_]) (by kernel_rfl) (by decide) rfl ⟨?_,trivial⟩))
        refine dA sz.Rat rfl rfl rfl rfl rfl (au rfl) (cells2:=[_,_,_,_,_,_,_,_,_,_,_]) rfl (OL.nil (OT.leaf (by kernel_rfl) ?_))
        exact AW.reach () ⟨trivial,Knows.app .Ny (.nil),bn.app (.cons rfl (.cons rfl .nil)) (.cons rfl (.cons rfl .nil))⟩
     .refine aG ag.Rat rfl rfl (vs:=[_,_,_]) rfl (au rfl) (OL.nil (OT.node [2] (os:=[_]) (by kernel_rfl) (by decide) rfl ⟨?_,trivial⟩))
      refine aY rfl vL (JQ (h:=h) (l:=(FP h O).1) (sK e1) n1) (OL.nil (OT.node [4] (os:=[_]) (by kernel_rfl) (by decide) rfl ⟨?_,trivial⟩))
      refine aF fd.fO rfl rfl (OL.nil (OT.node [5] (os:=[_]) (by kernel_rfl) (by decide) rfl ⟨?_,trivial⟩))
      refine dA sz.aQ rfl rfl rfl rfl rfl (au rfl) (cells2:=[_,_,_,_,_,_,_,_,_,_,_]) rfl (OL.nil (OT.node [6] (os:=[_]) (by kernel_rfl) (by decide) rfl ⟨?_,trivial⟩))
      refine aF fd.gZ rfl rfl (OL.nil (OT.node [7] (os:=[_]) (by kernel_rfl) (by decide) rfl ⟨?_,trivial⟩))
      refine dA sz.Rat rfl rfl rfl rfl rfl (au rfl) (cells2:=[_,_,_,_,_,_,_,_,_,_,_]) rfl (OL.nil (OT.leaf (by kernel_rfl) ?_))
      exact AW.reach () ⟨trivial,Knows.app .Ny (.nil),bn.app (.cons rfl (.cons rfl .nil)) (.cons rfl (.cons rfl .nil))⟩
    .refine aG ag.Rat rfl rfl (vs:=[_,_,_]) rfl (au rfl) (OL.nil (OT.node [1] (os:=[_]) (by kernel_rfl) (by decide) rfl ⟨?_,trivial⟩))
     refine ah rfl (OL.nil (OT.node [2] (os:=[_]) (by kernel_rfl) (by decide) rfl ⟨?_,trivial⟩))
     refine aY rfl vL (JQ (h:=h) (l:=(FP h O).1) (sK e1) n1) (OL.nil (OT.node [4] (os:=[_]) (by kernel_rfl) (by decide) rfl ⟨?_,trivial⟩))
     refine aF fd.fO rfl rfl (OL.nil (OT.node [5] (os:=[_]) (by kernel_rfl) (by decide) rfl ⟨?_,trivial⟩))
     refine dA sz.aQ rfl rfl rfl rfl rfl (au rfl) (cells2:=[_,_,_,_,_,_,_,_,_,_,_]) rfl (OL.nil (OT.node [6] (os:=[_]) (by kernel_rfl) (by decide) rfl ⟨?_,trivial⟩))
     refine aF fd.gZ rfl rfl (OL.nil (OT.node [7] (os:=[_]) (by kernel_rfl) (by decide) rfl ⟨?_,trivial⟩))
     refine dA sz.Rat rfl rfl rfl rfl rfl (au rfl) (cells2:=[_,_,_,_,_,_,_,_,_,_,_]) rfl (OL.nil (OT.leaf (by kernel_rfl) ?_))
     exact AW.reach () ⟨trivial,Knows.app .Ny (.nil),bn.app (.cons rfl (.cons rfl .nil)) (.cons rfl (.cons rfl .nil))⟩
   .refine ah rfl (OL.nil (OT.node [0,3] (os:=[_,_]) (by kernel_rfl) (by decide) rfl ⟨?_,?_,trivial⟩))
    .refine EL rfl (OL.nil (OT.node [2,3] (os:=[_,_]) (by kernel_rfl) (by decide) rfl ⟨?_,?_,trivial⟩))
     .refine aY rfl vL (JQ (h:=h) (l:=(FP h O).1) (sK e1) n1) (OL.nil (OT.node [3,4] (os:=[_,_]) (by kernel_rfl) (by decide) rfl ⟨?_,?_,trivial⟩))
      .refine aG ag.Rat rfl rfl (vs:=[_,_,_]) rfl (au rfl) (OL.nil (OT.node [4] (os:=[_]) (by kernel_rfl) (by decide) rfl ⟨?_,trivial⟩))
       refine aF fd.fO rfl rfl (OL.nil (OT.node [5] (os:=[_]) (by kernel_rfl) (by decide) rfl ⟨?_,trivial⟩))
       refine dA sz.aQ rfl rfl rfl rfl rfl (au rfl) (cells2:=[_,_,_,_,_,_,_,_,_,_,_]) rfl (OL.nil (OT.node [6] (os:=[_]) (by kernel_rfl) (by decide) rfl ⟨?_,trivial⟩))
       refine aF fd.gZ rfl rfl (OL.nil (OT.node [7] (os:=[_]) (by kernel_rfl) (by decide) rfl ⟨?_,trivial⟩))
       refine dA sz.Rat rfl rfl rfl rfl rfl (au rfl) (cells2:=[_,_,_,_,_,_,_,_,_,_,_]) rfl (OL.nil (OT.leaf (by kernel_rfl) ?_))
       exact AW.reach () ⟨trivial,Knows.app .Ny (.nil),bn.app (.cons rfl (.cons rfl .nil)) (.cons rfl (.cons rfl .nil))⟩
      .refine aF fd.fO rfl rfl (OL.nil (OT.node [3,5] (os:=[_,_]) (by kernel_rfl) (by decide) rfl ⟨?_,?_,trivial⟩))
       .refine aG ag.Rat rfl rfl (vs:=[_,_,_]) rfl (au rfl) (OL.nil (OT.node [5] (os:=[_]) (by kernel_rfl) (by decide) rfl ⟨?_,trivial⟩))
        refine dA sz.aQ rfl rfl rfl rfl rfl (au rfl) (cells2:=[_,_,_,_,_,_,_,_,_,_,_]) rfl (OL.nil (OT.node [6] (os:=[_]) (by kernel_rfl) (by decide) rfl ⟨?_,trivial⟩))
        refine aF fd.gZ rfl rfl (OL.nil (OT.node [7] (os:=[_]) (by kernel_rfl) (by decide) rfl ⟨?_,trivial⟩))
        refine dA sz.Rat rfl rfl rfl rfl rfl (au rfl) (cells2:=[_,_,_,_,_,_,_,_,_,_,_]) rfl (OL.nil (OT.leaf (by kernel_rfl) ?_))
        exact AW.reach () ⟨trivial,Knows.app .Ny (.nil),bn.app (.cons rfl (.cons rfl .nil)) (.cons rfl (.cons rfl .nil))⟩
       .refine dA sz.aQ rfl rfl rfl rfl rfl (au rfl) (cells2:=[_,_,_,_,_,_,_,_,_,_,_]) rfl (OL.nil (OT.node [3] (os:=[_]) (by kernel_rfl) (by decide) rfl ⟨?_,trivial⟩))
        refine aG ag.Rat rfl rfl (vs:=[_,_,_]) rfl (au rfl) (OL.nil (OT.node [6] (os:=[_]) (by kernel_rfl) (by decide) rfl ⟨?_,trivial⟩))
        refine aF fd.gZ rfl rfl (OL.nil (OT.node [7] (os:=[_]) (by kernel_rfl) (by decide) rfl ⟨?_,trivial⟩))
        refine dA sz.Rat rfl rfl rfl rfl rfl (au rfl) (cells2:=[_,_,_,_,_,_,_,_,_,_,_]) rfl (OL.nil (OT.leaf (by kernel_rfl) ?_))
        exact AW.reach () ⟨trivial,Knows.app .Ny (.nil),bn.app (.cons rfl (.cons rfl .nil)) (.cons rfl (.cons rfl .nil))⟩
     .refine aG ag.Rat rfl rfl (vs:=[_,_,_]) rfl (au rfl) (OL.nil (OT.node [2] (os:=[_]) (by kernel_rfl) (by decide) rfl ⟨?_,trivial⟩))
      refine aY rfl vL (JQ (h:=h) (l:=(FP h O).1) (sK e1) n1) (OL.nil (OT.node [4] (os:=[_]) (by kernel_rfl) (by decide) rfl ⟨?_,trivial⟩))
      refine aF fd.fO rfl rfl (OL.nil (OT.node [5] (os:=[_]) (by kernel_rfl) (by decide) rfl ⟨?_,trivial⟩))
      refine dA sz.aQ rfl rfl rfl rfl rfl (au rfl) (cells2:=[_,_,_,_,_,_,_,_,_,_,_]) rfl (OL.nil (OT.node [6] (os:=[_]) (by kernel_rfl) (by decide) rfl ⟨?_,trivial⟩))
      refine aF fd.gZ rfl rfl (OL.nil (OT.node [7] (os:=[_]) (by kernel_rfl) (by decide) rfl ⟨?_,trivial⟩))
      refine dA sz.Rat rfl rfl rfl rfl rfl (au rfl) (cells2:=[_,_,_,_,_,_,_,_,_,_,_]) rfl (OL.nil (OT.leaf (by kernel_rfl) ?_))
      exact AW.reach () ⟨trivial,Knows.app .Ny (.nil),bn.app (.cons rfl (.cons rfl .nil)) (.cons rfl (.cons rfl .nil))⟩
    .refine aG ag.Rat rfl rfl (vs:=[_,_,_]) rfl (au rfl) (OL.nil (OT.node [0] (os:=[_]) (by kernel_rfl) (by decide) rfl ⟨?_,trivial⟩))
     refine EL rfl (OL.nil (OT.node [2] (os:=[_]) (by kernel_rfl) (by decide) rfl ⟨?_,trivial⟩))
     refine aY rfl vL (JQ (h:=h) (l:=(FP h O).1) (sK e1) n1) (OL.nil (OT.node [4] (os:=[_]) (by kernel_rfl) (by decide) rfl ⟨?_,trivial⟩))
     refine aF fd.fO rfl rfl (OL.nil (OT.node [5] (os:=[_]) (by kernel_rfl) (by decide) rfl ⟨?_,trivial⟩))
     refine dA sz.aQ rfl rfl rfl rfl rfl (au rfl) (cells2:=[_,_,_,_,_,_,_,_,_,_,_]) rfl (OL.nil (OT.node [6] (os:=[_]) (by kernel_rfl) (by decide) rfl ⟨?_,trivial⟩))
     refine aF fd.gZ rfl rfl (OL.nil (OT.node [7] (os:=[_]) (by kernel_rfl) (by decide) rfl ⟨?_,trivial⟩))
     refine dA sz.Rat rfl rfl rfl rfl rfl (au rfl) (cells2:=[_,_,_,_,_,_,_,_,_,_,_]) rfl (OL.nil (OT.leaf (by kernel_rfl) ?_))
     exact AW.reach () ⟨trivial,Knows.app .Ny (.nil),bn.app (.cons rfl (.cons rfl .nil)) (.cons rfl (.cons rfl .nil))⟩
   .refine aG ag.Rat rfl rfl (vs:=[_,_,_]) rfl (au rfl) (OL.nil (OT.node [0,1] (os:=[_,_]) (by kernel_rfl) (by decide) rfl ⟨?_,?_,trivial⟩))
    .refine EL rfl (OL.nil (OT.node [1] (os:=[_]) (by kernel_rfl) (by decide) rfl ⟨?_,trivial⟩))
     refine ah rfl (OL.nil (OT.node [2] (os:=[_]) (by kernel_rfl) (by decide) rfl ⟨?_,trivial⟩))
     refine aY rfl vL (JQ (h:=h) (l:=(FP h O).1) (sK e1) n1) (OL.nil (OT.node [4] (os:=[_]) (by kernel_rfl) (by decide) rfl ⟨?_,trivial⟩))
     refine aF fd.fO rfl rfl (OL.nil (OT.node [5] (os:=[_]) (by kernel_rfl) (by decide) rfl ⟨?_,trivial⟩))
     refine dA sz.aQ rfl rfl rfl rfl rfl (au rfl) (cells2:=[_,_,_,_,_,_,_,_,_,_,_]) rfl (OL.nil (OT.node [6] (os:=[_]) (by kernel_rfl) (by decide) rfl ⟨?_,trivial⟩))
     refine aF fd.gZ rfl rfl (OL.nil (OT.node [7] (os:=[_]) (by kernel_rfl) (by decide) rfl ⟨?_,trivial⟩))
     refine dA sz.Rat rfl rfl rfl rfl rfl (au rfl) (cells2:=[_,_,_,_,_,_,_,_,_,_,_]) rfl (OL.nil (OT.leaf (by kernel_rfl) ?_))
     exact AW.reach () ⟨trivial,Knows.app .Ny (.nil),bn.app (.cons rfl (.cons rfl .nil)) (.cons rfl (.cons rfl .nil))⟩
    .refine ah rfl (OL.nil (OT.node [0] (os:=[_]) (by kernel_rfl) (by decide) rfl ⟨?_,trivial⟩))
     refine EL rfl (OL.nil (OT.node [2] (os:=[_]) (by kernel_rfl) (by decide) rfl ⟨?_,trivial⟩))
     refine aY rfl vL (JQ (h:=h) (l:=(FP h O).1) (sK e1) n1) (OL.nil (OT.node [4] (os:=[_]) (by kernel_rfl) (by decide) rfl ⟨?_,trivial⟩))
     refine aF fd.fO rfl rfl (OL.nil (OT.node [5] (os:=[_]) (by kernel_rfl) (by decide) rfl ⟨?_,trivial⟩))
     refine dA sz.aQ rfl rfl rfl rfl rfl (au rfl) (cells2:=[_,_,_,_,_,_,_,_,_,_,_]) rfl (OL.nil (OT.node [6] (os:=[_]) (by kernel_rfl) (by decide) rfl ⟨?_,trivial⟩))
     refine aF fd.gZ rfl rfl (OL.nil (OT.node [7] (os:=[_]) (by kernel_rfl) (by decide) rfl ⟨?_,trivial⟩))
     refine dA sz.Rat rfl rfl rfl rfl rfl (au rfl) (cells2:=[_,_,_,_,_,_,_,_,_,_,_]) rfl (OL.nil (OT.leaf (by kernel_rfl) ?_))
     exact AW.reach () ⟨trivial,Knows.app .Ny (.nil),bn.app (.cons rfl (.cons rfl .nil)) (.cons rfl (.cons rfl .nil))⟩
  rintro⟨⟩ hφ
  refine AW.seq (AW.sg hE rfl (bP ce.ints rfl (eH (f:=λk:Nat=>dI (k:Int)) sl.ints rfl rfl (ah rfl (OL.nil (AW.block ?_))))));refine AW.freeze 70 rfl (AW.vC 11 [.d (dI h.sym),.d (dI (bD h).length),.d (dB (eU (kW h O []).empty).neg),.d (aC (eU (kW h O []).empty).num),.d (aC (eU (kW h O []).empty).den),.d (o9 (kW h O []).ini),.bJ 126 0 0 0,.bJ 131 0 0 0,.bJ 141 0 0 0,.d (bools (List.replicate (bD h).length false)),.bJ 146 0 0 0] rfl (.cons vR (.cons vR (.cons vR (.cons vR (.cons vR (.cons vR (.cons aZ.Ub (.cons aZ.Ub (.cons aZ.Ub (.cons (dP (by rw[dF,List.length_replicate]) rfl) (.cons aZ.Ub .nil))))))))))) ?_)
  refine AW.row0 126 T.aQ 1 rfl (AW.row0 131 T.Rat 3 rfl (AW.row0 141 T.aQ 1 rfl (AW.row0 146 T.int 1 rfl ?_)));refine AW.aK (α:=Nat × Nat × Nat × Nat × Nat × Nat × Nat × Nat × Nat × List Int) [(1,_),(2,_),(3,_),(5,_),(8,_),(10,_),(11,_),(88,_),(89,_)] [(1,_),(2,_)] (λ(i,p1,c1,p2,c2,p3,c3,p5,c5,zs)=>[(90,.d (dI i))]) (λ(i,p1,c1,p2,c2,p3,c3,p5,c5,zs)=>[(11,.box b11 T.aU [.d (dI h.sym),.d (dI (bD h).length),.d (dB (eU (kW h O []).empty).neg),.d (aC (eU (kW h O []).empty).num),.d (aC (eU (kW h O []).empty).den),.d (o9 (kW h O []).ini),.bJ 126 p1 i c1,.bJ 131 p2 i c2,.bJ 141 p3 i c3,.d (bools (List.replicate (bD h).length false)),.bJ 146 p5 i c5]),(126,.row p1 c1 T.aQ 1 (((kW h O []).trans.take i).map o9)),(131,.row p2 c2 T.Rat 3 (((kW h O []).stop.take i).map dQ)),(141,.row p3 c3 T.aQ 1 (((kW h O []).emit.take i).map o9)),(146,.row p5 c5 T.int 1 (zs.map dI))]) (λ(i,p1,c1,p2,c2,p3,c3,p5,c5,zs)=>i<=(bD h).length/\zs.length=i/\∀ j,j<i->JR tz (Iy h ((bD h).getD j 0)) (zs.getD j 0)) (λ(i,p1,c1,p2,c2,p3,c3,p5,c5,zs)=>(bD h).length-i) (0,0,0,0,0,0,0,0,0,[]) (.cons (fG rfl) (.cons (fG rfl) (.cons (Xr) (.cons (bM rfl) (.cons (bM rfl) (.cons (EM rfl) (.cons (fG rfl) (.cons (bM rfl) (.cons (bM rfl) .nil))))))))) (.cons (iJ rfl) (.cons (iJ rfl) .nil)) ⟨⟨Nat.zero_le _,rfl,λj hj=>by omega⟩,.bC,.cons rfl (.cons rfl (.cons rfl (.cons rfl (.cons rfl .nil))))⟩ ?_
  rintro⟨i,p1,c1,p2,c2,p3,c3,p5,c5,zs⟩ ⟨h1,hzl,hzp⟩
  have h1:i<=(bD h).length:=h1;have hzl:zs.length=i:=hzl;have hzp:∀ j,j<i->JR tz (Iy h ((bD h).getD j 0)) (zs.getD j 0):=hzp;refine AW.sg hE rfl (aN rfl rfl rfl (OL.nil (AW.seq (AW.cond rfl (λh91=>?_) (λh91=>?_)))))
  .try simp only[bY] at h91
   refine AW.skip (AW.seq (AW.block (AW.seq ?_)));have hi:i<(bD h).length:=by omega
   obtain⟨hk,hks⟩:=xW hi;have hti:=f.tie ((bD h).getD i 0) hk;have htd:=Q8 hti.1;have htw:=f.x9 ((bD h).getD i 0) hk;have her:=f.wH ((bD h).getD i 0) hk;refine AW.rg hE rfl (bg (f:=λk:Nat=>dI (k:Int)) sl.ints 0 rfl rfl hi rfl rfl (bP ce.int rfl (ay rfl (OL.nil (AW.seq (AW.dg 1 [0,1,2,3,4,5,6,7,8,9,10,11,12,13,14,15,16,17,18] aj hE rfl (by kernel_rfl) (OI.aP (os:=[_,_,_,_,_,_,_,_,_,_,_,_,_,_,_,_,_,_,_]) rfl ?_)))))))
   refine aG ag.aU rfl rfl (vs:=[_,_,_,_,_,_,_,_,_,_,_]) rfl (au rfl) (ah rfl (aF fd.fD rfl rfl (ak ce.aW rfl rfl rfl (ah rfl (bg sl.aW [] rfl rfl (by omega) rfl rfl (bP ce.aQ rfl (aF fd.jf rfl rfl ?_)))))))
   refine ak ce.aQ rfl rfl rfl (ah rfl (bg sl.aQ 0 rfl rfl (by omega) rfl rfl (iU ag.Rat rfl (vs:=[_,_,_]) rfl (au rfl) ?_)))
   refine aY rfl .CZ (Wi (l:=h.trans.getD ((bD h).getD i 0) []) (e:=h.stop.getD ((bD h).getD i 0) 0) f zT zS hb1 hB htw hO2 o2.len (zT ((bD h).getD i 0)) (zS.get hb1 ((bD h).getD i 0))) ?_;rw[V8 o2 o htw,show uX h O (h.trans.getD ((bD h).getD i 0) [],h.stop.getD ((bD h).getD i 0) 0)=wI h O ((bD h).getD i 0) from rfl]
   refine BN rfl (ex rfl rfl (ex rfl rfl (al z.Rat rfl λb17=>(ay rfl (dA sz.Rat rfl rfl rfl rfl rfl (au rfl) (cells2:=[_,_,_]) rfl (OL.nil (AW.seq ?_)))))));refine AW.oz (by rw[hE];rfl) (SK.dG (ah (y:=.sl (tz.map dN)) rfl (OL.nil ?_)))
   refine SK.dG (aF fd.fF rfl rfl (OL.nil ?_));refine SK.dG (ak ce.ints rfl rfl rfl (OL.nil ?_));refine SK.dG (ah rfl (OL.nil ?_));refine SK.dG (bg sl.ints 0 rfl rfl (show ((bD h).getD i 0)<h.ties.length by omega) rfl rfl (OL.nil ?_))
   refine SK.dG (bP ce.int rfl (OL.nil ?_));refine SK.G5 (SO.Ey (args':=[.d (.sl (tz.map dN)),.d (dN (Iy h ((bD h).getD i 0)))]) (show 117<E.n by rw[hE];exact Nat.le_of_ble_eq_true (by rfl)) rfl (.cons vR (.cons (aI (congrArg V.d htd)) .nil)) (Mc:=jm) (λ_ _ h=>by cases h) (aI9 (Nat.le_trans bb6 (by omega))) (λ_ _ _ h=>h) ?_)
   rintro pl hpl
   have hpl2:=hpl.2 htA (htM _ (List.mem_map.2 ⟨((bD h).getD i 0),getD_mem hi 0,rfl⟩));refine SK.dG (BN rfl (OL.nil ?_));refine SK.dG (ex rfl rfl (OL.nil ?_));refine SK.dG (ex rfl rfl (OL.nil ?_));refine SK.dG (ay rfl (OL.nil ?_));refine SK.dG (ay rfl (OL.nil ?_));refine SK.nil (AW.dg 2 [0,1,2,3,4,5,7,8,9,10,12,13,14,15,16,17,18,22,23,24,25,6,27,11,19,20,21,26,28,29,30,31,32,33,34] aj hE rfl (by kernel_rfl) (OI.aP (os:=[_,_,_,_,_,_,_,_,_,_,_,_,_,_,_,_,_,_,_,_,_,_,_,_,_,_,_,_,_,_,_,_,_,_,_]) rfl ?_))
   refine aF fd.fD rfl rfl (ak ce.aW rfl rfl rfl (EL rfl (ah rfl (aY rfl vL (JQ (h:=h) (l:=(wI h O ((bD h).getD i 0)).1) (sK htw) n1) (tC (y:=o9 (JV h (wI h O ((bD h).getD i 0)).1)) sl.aW (VC.d _).vd rfl (by decide) (aF fd.jf rfl rfl (ak ce.aQ rfl rfl rfl ?_)))))))
   refine aG ag.Rat rfl rfl (vs:=[_,_,_]) rfl (au rfl) (tC (y:=dQ (wI h O ((bD h).getD i 0)).2) sl.aQ Dp rfl (by decide) (aF fd.dS rfl rfl (ak ce.aW rfl rfl rfl (aF fd.dS rfl rfl (ak ce.aW rfl rfl rfl (ah rfl (bg sl.aW [] rfl rfl (by omega) rfl rfl ?_)))))))
   refine bP ce.aQ rfl (aF fd.fF rfl rfl (ak ce.ints rfl rfl rfl (ah rfl (tC (y:=dI (pl.1:Int)) sl.ints (VC.d _).vd rfl (by decide) ?_))))
   refine yG sl.aW rfl rfl rfl (by rw[dF,List.length_take];omega) (VC.d _) (λy hy=>by rw[qm hy];rfl) (by simp only[nN];omega) (by simp only[nN];omega) (.inr rfl) (ys:=((kW h O []).trans.take (i+1)).map o9) (by rw[cu (show i<(kW h O []).trans.length by omega) [],gT i hi,List.map_append];rfl) (n2:=i+1) (rfl) λbm4 bm5=>?_
   refine aF fd.fD rfl rfl ?_;refine yG sl.aQ rfl rfl rfl (by rw[dF,List.length_take];omega) (VC.d _) (λy hy=>by rw[qm hy];rfl) (by simp only[nN];omega) (by simp only[nN];omega) (.inr rfl) (ys:=((kW h O []).stop.take (i+1)).map dQ) (by rw[cu (show i<(kW h O []).stop.length by omega) 0,gS i hi,List.map_append];rfl) (n2:=i+1) (rfl) λbm6 c131=>?_
   refine aY rfl vL (qX (l:=h.emit.getD ((bD h).getD i 0) []) (C:=B) (zM ((bD h).getD i 0)) ⟨hb1,by omega⟩ (by omega)) (tC (y:=o9 (h.emit.getD ((bD h).getD i 0) [])) sl.aW (VC.d _).vd rfl (by decide) ?_)
   refine yG sl.aW rfl rfl rfl (by rw[dF,List.length_take];omega) (VC.d _) (λy hy=>by rw[qm hy];rfl) (by simp only[nN];omega) (by simp only[nN];omega) (.inr rfl) (ys:=((kW h O []).emit.take (i+1)).map o9) (by rw[cu (show i<(kW h O []).emit.length by omega) [],gM i hi,List.map_append];rfl) (n2:=i+1) (rfl) λbm7 c141=>?_
   refine yG sl.ints rfl rfl rfl (by rw[dF,hzl]) (VC.d _) (λy hy=>by rw[qm hy];rfl) (by simp only[nN];omega) (by simp only[nN];omega) (.inr rfl) (ys:=(zs++[(pl.1:Int)]).map dI) (by rw[List.map_append];rfl) (n2:=i+1) (rfl) λbm8 c146=>?_
   refine dA sz.aW rfl rfl rfl rfl rfl (au rfl) (cells2:=[_,_,_,_,_,_,_,_,_,_,_]) rfl (aF fd.jf rfl rfl (dA sz.aQ rfl rfl rfl rfl rfl (au rfl) (cells2:=[_,_,_,_,_,_,_,_,_,_,_]) rfl (aF fd.dS rfl rfl (dA sz.aW rfl rfl rfl rfl rfl (au rfl) (cells2:=[_,_,_,_,_,_,_,_,_,_,_]) rfl (aF fd.fF rfl rfl (dA sz.ints rfl rfl rfl rfl rfl (au rfl) (cells2:=[_,_,_,_,_,_,_,_,_,_,_]) rfl (OL.nil ?_)))))));refine AW.rg hE rfl (aB rfl rfl (by omega) (ah rfl (OL.nil ?_)))
   exact AW.again (x:=(i,p1,c1,p2,c2,p3,c3,p5,c5,zs)) (i+1,bm4,bm5,bm6,c131,bm7,c141,bm8,c146,zs++[(pl.1:Int)]) (by (simp only[];omega)) ⟨⟨by omega,by rw[jT,hzl];rfl,TR (f:=λj=>Iy h ((bD h).getD j 0)) hzl hzp hpl2⟩,Knows.app .rq9 .bC,bn.app (.cons rfl (.cons rfl .nil)) (.cons rfl (.cons rfl (.cons rfl (.cons rfl (.cons rfl .nil)))))⟩
  .try simp only[bY] at h91
   refine AW.exit (AW.seq ?_);obtain rfl:i=(bD h).length:=by omega
   refine AW.rg hE rfl (aG ag.aU rfl rfl (vs:=[_,_,_,_,_,_,_,_,_,_,_]) rfl (au rfl) (dA sz.aU rfl rfl rfl rfl rfl (au rfl) (cells2:=[_,_,_,_,_,_,_,_,_,_,_]) rfl (ay rfl (OL.nil ?_))));exact AW.ret ⟨zs,ax0 hzl bb6 hzp,⟨_,.dD rfl rfl ag.aU (au rfl) (.tmp rfl .nil),_,.cons (.ag (.cons (.le vR) (.cons (.le vR) (.cons (.le vR) (.cons (.le vR) (.cons (.le vR) (.cons (.le vR) (.cons (RO.row rfl (by rw[dF,List.length_take];omega) (by rw[show (kW h O []).trans.take (bD h).length=(kW h O []).trans from List.take_of_length_le (by omega)];rfl)) (.cons (RO.row rfl (by rw[dF,List.length_take];omega) (by rw[show (kW h O []).stop.take (bD h).length=(kW h O []).stop from List.take_of_length_le (by omega)];rfl)) (.cons (RO.row rfl (by rw[dF,List.length_take];omega) (by rw[show (kW h O []).emit.take (bD h).length=(kW h O []).emit from List.take_of_length_le (by omega)];rfl)) (.cons (.le vR) (.cons (RO.row rfl (by rw[dF,hzl]) rfl) (.nil))))))))))))) (.cons (.le vR) .nil),rfl⟩,λ_ _ h=>by cases h⟩
