/-
  Walks of package minimal, part 1: the prefixes (printed by mk2.py).
-/
import Derived.Test.YtanlenlmihoiiaaGreatDoorKMod103
set_option maxRecDepth 8000
set_option maxHeartbeats 6400000
set_option linter.unusedVariables false
set_option linter.unusedSimpArgs false
namespace Go.AL
open Go Go.BigFrame
section
variable {m:bV}{B l:Nat}{y z:y7}{K:List (List Int)}{rs:List bZ}
structure IK (m mv:bV):Prop where
 n:mv.n=(jU (aA m)).length
 k:mv.k=m.k
 ok:mv.Ok
 vec:∀ w,iV m.k w->bF mv w=aZ m (jU (aA m)) w
 wt:∀ w,iV m.k w->yH mv w=yH m w
theorem CX (ok:m.Ok)(h:gu (aA m) B [] z):∃ mv,IK m mv:=by
 obtain⟨V,j,_⟩:=h.join;have hw:=h.vF;rw[h.bas] at j hw;rw[kX] at hw;obtain⟨mv,h1,h2,h3,h4,h5⟩:=am9 ok j hw;exact⟨mv,h1,h2,h3,h4,h5⟩
theorem gu.first (ok:m.Ok)(h:gu (aA m) B [] z){mv:bV}(v:IK m mv)(hy:gu mv B [] y):l7 m.k (λu l=>yH m (u++l)) y.ks:=by
 obtain⟨V2,j2,_⟩:=h.join;obtain⟨V,j,_⟩:=hy.join;have hw:=h.vF;rw[h.bas] at j2 hw;rw[kX] at hw;have inw:∀ u,u ∈ y.ks->iV m.k u:=λu hu=>by rw[<- v.k];exact hy.vF u hu
 have f:=MV (ρ:=id) (K:=y.ks) (rs:=y.rs) rfl ok j2 hw hy.ord inw (λw hw=>by
   have h1:=j.Kz.reach w (by rw[v.k];exact hw) λq hq=>by cases hq
   rw[v.n,v.vec w hw] at h1;refine h1.mono λb hb=>?_;obtain⟨u,hu,rfl⟩:=kK hb;exact List.mem_map.2 ⟨u,hu,(v.vec u (inw u (dV.1 hu).1)).symm⟩) (by rw[<- v.n];exact j.ech) j.len λr hr=>by
   have h1:=j.rows r hr;rw[v.n] at h1;refine h1.mono λb hb=>?_;obtain⟨u,hu,rfl⟩:=kK hb;exact List.mem_map.2 ⟨u,hu,(v.vec u (inw u hu)).symm⟩
 refine f.rev.congr λu l _ hl=>?_;show yH m (u++l)=jP m u l.reverse
 rw[CQ l.reverse u (yJ hl),List.reverse_reverse]
theorem gu.rank (ok:m.Ok)(h:gu (aA m) B [] z){mv:bV}(v:IK m mv)(hy:gu mv B [] y):y.ks.length=Ih m.k (yH m):=by
 obtain⟨V2,j2,_⟩:=h.join;rw[h.bas] at j2;exact Xq ok j2 v.n v.k v.vec hy
theorem an9 (ho:K.Pairwise λa b=>mG a b<0)(hp:∀ u,u ∈ K->u≠[]->∃ x,x ∈ K/\x.length+1=u.length):∀ (q i:Nat) (hi:i<K.length),K[i].length=q->q<=i:=by
 intro q
 induction q with
 | zero=>intro i _ _;exact Nat.zero_le _
 | succ q ih =>
  intro i hi hq;obtain⟨x,hx,hxl⟩:=hp K[i] (List.getElem_mem hi) λe=>by rw[e] at hq;cases hq
  obtain⟨t,ht,rfl⟩:=List.mem_iff_getElem.1 hx;have h1:=ih t ht (by omega)
  have h2:t<i:=by
   rcases Nat.lt_trichotomy t i with g|g|g
   .exact g
   .subst g;omega
   .have h3:=List.pairwise_iff_getElem.1 ho i t hi ht g;have h4:=NI (Int.le_of_lt h3);omega
  omega
theorem pY (ho:K.Pairwise λa b=>mG a b<0)(hp:∀ u,u ∈ K->u≠[]->∃ x,x ∈ K/\x.length+1=u.length):∀ u,u ∈ K->u.length<K.length:=λu hu=>by
 obtain⟨i,hi,rfl⟩:=List.mem_iff_getElem.1 hu;exact Nat.lt_of_le_of_lt (an9 ho hp _ i hi rfl) hi
theorem gu.short (h:gu m B [] y):∀ u,u ∈ y.ks->u.length<y.ks.length:=pY h.ord λu hu hne=>⟨u.dropLast,h.closed hu hne,by
 have:=List.length_pos_iff.2 hne;rw[List.length_dropLast];omega⟩
structure Ns (m:bV) (K:List (List Int)):Prop where
 first:l7 m.k (λw l=>yH m (l++w)) K
 tail:∀ s u,s::u ∈ K->u ∈ K
 rank:K.length=Ih m.k (yH m)
theorem Ns.unique {K':List (List Int)}(h:Ns m K)(h':Ns m K'):K=K':=h.first.unique h'.first
theorem Ns.short (h:Ns m K):∀ u,u ∈ K->u.length<K.length:=pY h.first.ord λu hu hne=>by
 cases u with
 | nil=>exact absurd rfl hne
 | cons s u=>exact⟨u,h.tail s u hu,rfl⟩
noncomputable abbrev oL (m:bV):List Int->List Rat:=λw=>aZ (aA m) (jU (aA (aA m))) w.reverse
theorem Ee (ok:m.Ok)(h:gu (aA (aA m)) B [] z):Qr m.k (jU (aA (aA m))).length (oL m):=by
 obtain⟨mv,v⟩:=CX (iH ok) h;exact⟨mv,v.n,v.k.trans kX,λw hw=>(v.vec w.reverse (by rw[kX];exact yJ hw)).symm⟩
theorem Ff.fin (ok:m.Ok)(hk:1<=m.k)(h:gu (aA (aA m)) B [] z)(s:Ff m.k (jU (aA (aA m))).length B (oL m) l [] K rs):Ns m K:=by
 have hf:=Ee ok h;have all:=s.all hf hk;have reach:∀ w,iV m.k w->dh (jU (aA (aA m))).length ((upTo K w).map (oL m)) (vf (oL m w)):=λw hw=>all w.length w rfl hw;obtain⟨V2,j2,_⟩:=h.join;have hw:=h.vF;rw[h.bas] at j2 hw;rw[kX,kX] at hw;have f:=MV (m:=aA m) (ρ:=List.reverse) (K:=K) (rs:=rs) (k:=m.k) kX (iH ok) j2 hw s.s.ord s.s.vF reach s.s.sp.ech s.s.len s.s.rows;refine⟨f.congr λw l hw hl=>?_,s.s.tail,?_⟩
 .show yH m (l++w)=jP (aA m) w.reverse l
  rw[CQ l w.reverse (by rw[kX];exact hl),ac2 λx hx=>?_]
  .rw[List.reverse_append,List.reverse_reverse,List.reverse_reverse]
  .rcases uy hx with hx|hx
   .exact hw x (List.mem_reverse.1 hx)
   .exact hl x (List.mem_reverse.1 hx)
 .rw[<- s.s.len];have hr:=Zp (m:=aA m) (U:=K.map List.reverse) (iH ok) j2 s.s.sp.ech (λr hr=>by
    have h1:=s.s.rows r hr;rw[List.map_map];exact h1) (λu hu=>by
    obtain⟨x,hx,rfl⟩:=kK hu;rw[kX];exact yJ (s.s.vF x hx)) λw hw=>by
    rw[kX] at hw;have h1:=reach w.reverse (yJ hw);rw[show oL m w.reverse=aZ (aA m) (jU (aA (aA m))) w by show aZ _ _ w.reverse.reverse=_;rw[List.reverse_reverse]] at h1
    refine h1.trans λb hb=>?_;obtain⟨u,hu,rfl⟩:=kK hb;exact s.s.kept u (dV.1 hu).1
  rw[hr];have h1:=RX (aA m);rw[kX,ak5 (g:=λw=>yH m w.reverse) λw hw=>ac2 hw] at h1;have h2:=ak6 (RX m) h1;rw[kX];exact h2
def Zr (s:List Int->Rat)(S:List (List Int))(u:List Int):List Rat:=S.map λw=>s (u++w)
def eG (vs:List (List Rat)):List bZ:=vs.foldl uK []
theorem oG {vs:List (List Rat)}{v:List Rat}:eG (vs++[v])=uK (eG vs) v:=by unfold eG;rw[List.foldl_append];rfl
theorem aH3 {n:Nat}(h1:1<=B):∀ (vs:List (List Rat)),(∀ v,v ∈ vs->v.length=n)->(∀ v,v ∈ vs->∀ i,sz (v.getD i 0)<=B)->uO n B (eG vs)/\PX n vs (eG vs)/\∀ r,r ∈ eG vs->r.p=dX r.v:=by
 intro vs
 induction hq:vs.length generalizing vs with
 | zero=>intro _ _;rw[Hl hq];exact⟨uO.nil,PX.nil,λ_ h=>by cases h⟩
 | succ q ih =>
  intro hl hz;obtain⟨P,x,rfl⟩:∃ u x,vs=u++[x]:=⟨vs.dropLast,vs.getLast (λh=>by rw[h] at hq;cases hq),(List.dropLast_concat_getLast _).symm⟩
  rw[jd,iY] at hq;have hx:=hl x (List.mem_append.2 (.inr (List.mem_singleton.2 rfl)));obtain⟨a,b,c⟩:=ih P (by omega) (λv hv=>hl v (List.mem_append.2 (.inl hv))) (λv hv=>hz v (List.mem_append.2 (.inl hv)))
  rw[oG];exact⟨a.add hx h1 (hz x (List.mem_append.2 (.inr (List.mem_singleton.2 rfl)))),b.add a.ech hx,aD8 c⟩
end
open Classical in
noncomputable def aV (m:bV):List (List Int):=if h:∃ K,l7 m.k (λu l=>yH m (u++l)) K then h.choose else []
open Classical in
noncomputable def FB (m:bV):List (List Int):=if h:∃ K,Ns m K then h.choose else []
theorem CY {m:bV}{K:List (List Int)}(f:l7 m.k (λu l=>yH m (u++l)) K):aV m=K:=by
 have h:∃ K,l7 m.k (λu l=>yH m (u++l)) K:=⟨K,f⟩;unfold aV;rw[dif_pos h];exact h.choose_spec.unique f
theorem NV {m:bV}{K:List (List Int)}(f:Ns m K):FB m=K:=by
 have h:∃ K,Ns m K:=⟨K,f⟩;unfold FB;rw[dif_pos h];exact h.choose_spec.unique f
end Go.AL
namespace Go.Proofs.YtanlenlmihoiiaaGreatDoor
open Go Go.AL
noncomputable abbrev bL (m:bV):List (List Int):=jU (aA m)
noncomputable abbrev Zt (m:bV)(w:List Int):D:=.ag [ints w,dJ (bF m w),dJ (aZ m (bL m) w)]
noncomputable abbrev bE0 (m:bV)(w:List Int):V:=.ag [.d (ints w),.d (dJ (bF m w)),.d (dJ (aZ m (bL m) w))]
theorem bg7 {m:bV}{w:List Int}:VD (bE0 m w) (Zt m w):=VD.ag (.cons (VC.d _) (.cons (VC.d _) (.cons (VC.d _) .nil)))
noncomputable abbrev af5 (m:bV):V:=.fn F.gy [.ref [Gj (aA m) (bL m)]]
noncomputable def kP (m:bV)(b bs bx bv:Nat):KM BSt:=⟨λy=>boxS b y.2.1 y.1.rs,λy=>P6 y.2.1 y.1.rs,λy=>zh y.2.1 y.1.rs,λy=>rowP y.2.1 y.1.rs,λ_=>.box bs T.vz [.ptr 1000 b 0],λy=>.box bx T.xC [.bI 1006 y.2.2.1 y.1.ks.length y.2.2.2],λy=>.row y.2.2.1 y.2.2.2 T.EX 3 (y.1.ks.map (Zt m)),λ_=>.box bv T.EY [af5 m]⟩
noncomputable def CZ (v:List Rat)(w:List Int)(y:y7):Bool × y7:=if bM y.rs v=true then (true,⟨y.ks++[w],y.rs++[newR y.rs v]⟩) else (false,y)
theorem Ve {v:List Rat}{w:List Int}{y:y7}(h:bM y.rs v=true):CZ v w y=(true,⟨y.ks++[w],y.rs++[newR y.rs v]⟩):=if_pos h
theorem Vf {v:List Rat}{w:List Int}{y:y7}(h:bM y.rs v=false):CZ v w y=(false,y):=if_neg (by rw[h];exact Bool.false_ne_true)
structure Nu (m:bV):Prop where
 inv:∃ z,gu (aA m) 16777215 [] z/\z.ks=bL m
theorem C9 {m:bV}{e:Nat}(ok:m.Ok)(z6:m.Sz e):Nu m:=⟨NR (iH ok) z6.n6 (by decide) λw _ h6 i=>Nat.le_trans (jY z6.turn h6 i) (by decide)⟩
theorem Nu.len {m:bV}(h:Nu m)(n6:m.n<=6):(bL m).length<=m.n/\(∀ l,l ∈ bL m->l.length<=5)/\∀ l,l ∈ bL m->iV m.k l:=by
 obtain⟨z,hz,e⟩:=h.inv;refine⟨by rw[<- e];exact hz.b.few.2,(TM hz (show (aA m).n<=6 from n6)).2.1,λl hl=>?_⟩
 have:=(TM hz (show (aA m).n<=6 from n6)).2.2 l hl
 rwa [kX] at this
theorem Zu {m:bV}{L:List (List Int)}{w:List Int}{y:y7}(h:y.rs=eG (y.ks.map (aZ m L))):(CZ (aZ m L w) w y).2.rs=eG ((CZ (aZ m L w) w y).2.ks.map (aZ m L)):=by
 cases hg:bM y.rs (aZ m L w) with
 | true =>
  rw[Ve hg,List.map_append,List.map_cons,List.map_nil,oG,<- h];exact (if_pos hg).symm
 | false=>rw[Vf hg];exact h
theorem TN {m:bV}{B:Nat}{Q:List (List Int)}{y:y7}(h:gu m B Q y):∀ w,w ∈ Q->iV m.k w:=λw hw=>by
 obtain⟨V,j,_⟩:=h.join;exact j.Kz.vF w (.inr hw)
theorem LC {m:bV}{B:Nat}{Q:List (List Int)}{y:y7}(h:gu m B Q y)(n5:m.n<=5):∀ w,w ∈ Q->w.length<=5:=λw hw=>by
 obtain⟨V,j,_⟩:=h.join;rcases j.Kz.par w hw with rfl|⟨u,hu,s,_,rfl⟩
 .exact Nat.zero_le _
 .obtain⟨i,hi,rfl⟩:=List.mem_iff_getElem.1 hu;have h1:=h.len.kept i _ (lQ hi);have h2:=h.b.few;rw[jd,iY];omega
theorem Zv {m:bV}{e b bs bx bv:Nat}{w:List Int}{y:y7}{B:NP}{bo co:Nat}(ok:m.Ok)(z6:m.Sz e)(hL:Nu m)(sp:uO (bL m).length 16777215 y.rs)(hw:w.length<=5)(hk:y.ks.length<=64):jA P F.lV [ak9 m w,.ptr 1007 bv 0,.ptr 1004 bs 0,.ptr 1005 bx 0] (kmM (kP m b bs bx bv) (y,B,bo,co)) (λz:Bool × BSt=>.d (dB z.1)) (λz=>kmM (kP m b bs bx bv) z.2) (λz=>z.1=(CZ (aZ m (bL m) w) w y).1/\z.2.1=(CZ (aZ m (bL m) w) w y).2):=by
 obtain⟨ks,rs⟩:=y;have sp:uO (bL m).length 16777215 rs:=sp;have hk:ks.length<=64:=hk;have n6:=z6.n6;obtain⟨hl6,hl5,_⟩:=hL.len n6;have hvl:(aZ m (bL m) w).length=(bL m).length:=fU;have hvz:∀ j,sz ((aZ m (bL m) w).getD j 0)<=16777215:=λj=>ug z6 hw hl5 j;refine jA.intro fn.lV (by rfl) (by rfl) (ay (by rfl)) λE hE=>(AW.sg hE rfl (iO rfl rfl λb4=>(aF rfl (OL.nil (AW.seq (AW.dg 1 [0,1,2,3,4,5,6,7] ak hE rfl (by kernel_rfl) (OI.aK (os:=[_,_,_,_,_,_,_,_]) rfl ?_)))))))
 refine aQ ag.Row rfl rfl (vs:=[_,_]) rfl (ay rfl) (aG ce.EY rfl rfl rfl (bC fd.Me rfl rfl (aG ce.bg rfl rfl rfl (bH rfl .iW (UW (m:=m) (L:=bL m) (u:=w) ok z6 (by omega) (by omega) (λl hl=>Nat.le_succ_of_le (hl5 l hl))) (L6 (cs:=[_,_,_]) z.EX pl.EX (lI (X5 rfl) (lI (uG rfl) LZ)) (by rfl) (al z.EX rfl λb6=>(fA sz.EX rfl rfl rfl rfl rfl (ay rfl) (cells2:=[_,_,_]) rfl ?_)))))))
 refine OL.nil (AW.seq (AW.seq (AW.sO (by rw[hE];rfl) (SK.gV (aG ce.vz rfl rfl (v:=.ptr 1000 b 0) rfl (OL.nil ?_))))))
 refine SK.gV (bC fd.bb8 rfl rfl (OL.nil ?_));refine SK.gV (aG ce.bg rfl rfl (v:=.d (dJ (aZ m (bL m) w))) rfl (OL.nil ?_));refine SK.Hu (SO.Jo (args':=[.ptr 1000 b 0,.d (dJ (aZ m (bL m) w))]) (show 16<E.n by rw[hE];exact Nat.le_of_ble_eq_true (by rfl)) rfl vL (Mc:=spM b B rs) (λid blk hk=>oh (l:=X7 b B rs) (.cons rfl (.cons rfl (.cons rfl (.cons rfl trivial)))) id blk hk) (be6 (b:=b) (B:=B) sp hvl (by omega) hvz) (λx _ id hk=>P7 id hk) ?_)
 rintro B2 -
 refine SK.gV (nt rfl (OL.nil ?_));refine SK.nil (AW.cond rfl (λhg=>?_) (λhg=>?_))
 .have hg:bM rs (aZ m (bL m) w)=false:=by simpa using hg
  rw[show uK rs (aZ m (bL m) w)=rs from if_neg (by rw[hg];exact Bool.false_ne_true)]
  refine AW.sg hE rfl (aF rfl (OL.nil ?_));exact AW.ret ⟨(false,(⟨ks,rs⟩,B2,bo,co)),⟨(congrArg Prod.fst (Vf (y:=⟨ks,rs⟩) hg)).symm,(congrArg Prod.snd (Vf (y:=⟨ks,rs⟩) hg)).symm⟩,⟨_,.tmp rfl .nil,.le vR⟩,λid blk hk=>oh (l:=kmL (kP m b bs bx bv) (⟨ks,rs⟩,B2,bo,co)) (.cons rfl (.cons rfl (.cons rfl (.cons rfl (.cons rfl (.cons rfl (.cons rfl (.cons rfl trivial)))))))) id blk hk⟩
 .have hg:bM rs (aZ m (bL m) w)=true:=by simpa using hg
  rw[show uK rs (aZ m (bL m) w)=rs++[newR rs (aZ m (bL m) w)] from if_pos hg]
  refine AW.skip (AW.sg hE rfl (aG ce.xC rfl rfl (v:=.bI 1006 bo ks.length co) rfl (aQ ag.EX rfl rfl (vs:=[_,_,_]) rfl (ay rfl) (rF (y:=Zt m w) sl.xC bg7 rfl (by decide) ?_))))
  refine xZ sl.xC rfl rfl rfl (by rw[dA]) (VC.d _) (λy hy=>by rw[jJ hy];rfl) (by simp;omega) (by simp;omega) (.inl rfl) (ys:=(ks++[w]).map (Zt m)) (by rw[List.map_append];rfl) (n2:=ks.length+1) rfl λb21 c21=>?_
  refine fA sz.xC rfl rfl rfl rfl rfl (ay rfl) rfl (OL.nil (AW.seq ?_));have hln:(ks++[w]).length=ks.length+1:=jd;refine AW.to [] [(1000,boxS b B2 (rs++[newR rs (aZ m (bL m) w)])),(1001,P6 B2 (rs++[newR rs (aZ m (bL m) w)])),(1002,zh B2 (rs++[newR rs (aZ m (bL m) w)])),(1003,rowP B2 (rs++[newR rs (aZ m (bL m) w)])),(1004,.box bs T.vz [.ptr 1000 b 0]),(1005,.box bx T.xC [.bI 21 b21 (ks.length+1) c21]),(21,.row b21 c21 T.EX 3 ((ks++[w]).map (Zt m))),(1007,.box bv T.EY [af5 m])] .nil (.cons rfl (.cons rfl (.cons rfl (.cons rfl (.cons rfl (.cons rfl (.cons rfl (.cons rfl (.nil))))))))) ?_;refine AW.rename 21 1006 rfl (AW.oZ 1005 [.bI 1006 b21 (ks.length+1) c21] rfl (.cons bW.bI .nil) ?_);refine AW.rg hE rfl (aF rfl (OL.nil ?_));exact AW.ret ⟨(true,(⟨ks++[w],rs++[newR rs (aZ m (bL m) w)]⟩,B2,b21,c21)),⟨(congrArg Prod.fst (Ve (y:=⟨ks,rs⟩) hg)).symm,(congrArg Prod.snd (Ve (y:=⟨ks,rs⟩) hg)).symm⟩,⟨_,.tmp rfl .nil,.le vR⟩,λid blk hk=>oh (l:=kmL (kP m b bs bx bv) (⟨ks++[w],rs++[newR rs (aZ m (bL m) w)]⟩,B2,b21,c21)) (.cons rfl (.cons rfl (.cons rfl (.cons rfl (.cons rfl (.cons (by show _=some (iF.box bx T.xC [.bI 1006 b21 (ks++[w]).length c21]);rw[hln];rfl) (.cons rfl (.cons rfl trivial)))))))) id blk hk⟩
theorem TP {m mv:bV}{e:Nat}(ok:m.Ok)(fl:m.Full)(z6:m.Sz e)(n1:1<=m.n)(n5:m.n<=5)(hL:Nu m)(v:IK m mv):jA P F.sV [wZ m] jH (λz:y7 × NP × Nat=>.mM [.d (.sl (z.1.ks.map (Zt m))),.ptr 1000 z.2.2 0,af5 m]) (λz=>spM z.2.2 z.2.1 z.1.rs) (λz=>gu mv 16777215 [] z.1/\z.1.rs=eG (z.1.ks.map (aZ m (bL m)))):=by
 have n6:=z6.n6;have k4:=z6.k2;have hln:=hL.len n6;have hvn:mv.n=(bL m).length:=v.n;have hvk:mv.k=m.k:=v.k;refine jA.intro fn.sV (by rfl) (by rfl) (ay (by rfl)) λE hE=>(AW.sg hE rfl (iO rfl rfl λb1=>(jK rfl (aF rfl (aF rfl (OL.nil (AW.sg hE rfl ?_)))))))
 refine al z.xC rfl λb5=>(OL.nil (AW.seq (AW.sO (by rw[hE];rfl) (SK.gV (aQ ag.Machine rfl rfl (vs:=[_,_,_]) rfl (ay rfl) (OL.nil ?_))))))
 refine SK.Hu (SO.Jo (args':=[wZ m]) (show 9<E.n by rw[hE];exact Nat.le_of_ble_eq_true (by rfl)) rfl vL (Mc:=jH) (λ_ _ h=>by cases h) (aE1 (m:=m) ok fl z6 n1) (λ_ _ _ h=>h) ?_)
 rintro y1 hI1
 have hI1:gu (aA m) 16777215 [] y1:=hI1;rw[hI1.bas];refine SK.gV (bd z.Space pl.Space (cs:=[_,_,_]) rfl (OL.nil ?_));refine SK.gV (iO rfl rfl λb11=>OL.nil ?_);refine SK.gV (al z.EY rfl λb6=>OL.nil ?_);refine SK.gV (al z.vz rfl λb7=>OL.nil ?_);refine SK.gV (fA sz.EY rfl rfl rfl rfl rfl (ay rfl) (cells2:=[_]) rfl (OL.nil ?_));refine SK.gV (fA sz.vz rfl rfl rfl rfl rfl (ay rfl) (cells2:=[_]) rfl (OL.nil ?_));refine SK.nil (AW.seq (AW.rename 11 1000 rfl (AW.rf 1001 T.bg 1 rfl (AW.rf 1002 T.bg 1 rfl (AW.rf 1003 T.int 1 rfl (AW.oZ 1000 [.bI 1001 0 0 0,.bI 1002 0 0 0,.bI 1003 0 0 0] rfl (.cons jB (.cons jB (.cons jB .nil))) (AW.rename 7 1004 rfl ?_)))))));refine AW.oZ 1004 [.ptr 1000 b11 0] rfl (.cons bW.ptr .nil) (AW.rename 5 1005 rfl (AW.rf 1006 T.EX 3 rfl (AW.oZ 1005 [.bI 1006 0 0 0] rfl (.cons jB .nil) (AW.rename 6 1007 rfl ?_))));refine AW.to [(1,.ptr 1 b1 0),(2,.mt),(5,.ptr 1005 b5 0),(6,.ptr 1007 b6 0),(7,.ptr 1004 b7 0)] ((1,.box b1 T.Machine [.d (dJ m.ini),.d (dJ m.fin),.d (.sl (m.jb.map qg))])::kmL (kP m b11 b7 b5 b6) ((⟨[],[]⟩,(default:NP),0,0):BSt)) (.cons bW.ptr (.cons vR (.cons bW.ptr (.cons bW.ptr (.cons bW.ptr .nil))))) (.cons rfl (.cons rfl (.cons rfl (.cons rfl (.cons rfl (.cons rfl (.cons rfl (.cons rfl (.cons rfl (.nil)))))))))) ?_;refine AW.sO (by rw[hE];rfl) (SK.gV (aQ ag.Machine rfl rfl (vs:=[_,_,_]) rfl (ay rfl) (OL.nil ?_)))
 refine SK.gV (mkF (vs:=[_,_,_]) rfl (OL.nil ?_));refine SK.Hu (SO.Jo (args':=[wZ m,.fn F.lV [.ptr 1007 b6 0,.ptr 1004 b7 0,.ptr 1005 b5 0]]) (show 14<E.n by rw[hE];exact Nat.le_of_ble_eq_true (by rfl)) rfl vL (Mc:=kmM (kP m b11 b7 b5 b6) ((⟨[],[]⟩,(default:NP),0,0):BSt)) (λid blk hk=>oh (l:=kmL (kP m b11 b7 b5 b6) ((⟨[],[]⟩,(default:NP),0,0):BSt)) (.cons rfl (.cons rfl (.cons rfl (.cons rfl (.cons rfl (.cons rfl (.cons rfl (.cons rfl trivial)))))))) id blk hk)
  (Xd (m:=m) (k:=kP m b11 b7 b5 b6) (I:=λQ y=>gu mv 16777215 Q y.1/\y.1.rs=eG (y.1.ks.map (aZ m (bL m)))) (μ:=λQ y=>iP mv Q y.1.rs) ok fl z6 (λQ y hI=>⟨hI.1.b.six (by omega),Nat.le_add_right _ _⟩)
   (λw Q y hI=>MP (Zv (y:=y.1) (B:=y.2.1) (bo:=y.2.2.1) (co:=y.2.2.2) ok z6 hL (by rw[<- hvn];exact hI.1.sp) (LC hI.1 (by omega) w pU) (by have:=hI.1.b.few;omega)) λz hz=>by
    have hwi:iV m.k w:=by have h:=TN hI.1 w pU;rwa [hvk] at h
    have hv:=v.vec w hwi;have h9:=hI.1.next v.ok (by decide) (λi=>by rw[hv];exact ug z6 (LC hI.1 (by omega) w pU) hln.2.1 i)
    have e9:oJ mv w y.1=CZ (aZ m (bL m) w) w y.1:=by unfold oJ CZ;rw[hv]
    rw[e9,<- hz.1,<- hz.2,hvk] at h9;have hr:z.2.1.rs=eG (z.2.1.ks.map (aZ m (bL m))):=by rw[hz.2];exact Zu hI.2
    exact⟨λht=>⟨⟨(h9.1 ht).1,hr⟩,(h9.1 ht).2⟩,λhf=>⟨⟨(h9.2 hf).1,hr⟩,(h9.2 hf).2⟩⟩) ⟨gu.start mv 16777215,rfl⟩ (by
     show [([]:List Int)].length+(mv.k+1)*(mv.n-0)<=1000
     have h9:=Nat.mul_le_mul (show mv.k+1<=5 by omega) (show mv.n-0<=6 by omega)
     rw[iY];omega)) (λx _ id hk=>P9 id hk) ?_)
 rintro⟨y,B,bo,co⟩ hI
 have hI:gu mv 16777215 [] y/\y.rs=eG (y.ks.map (aZ m (bL m))):=hI;refine SK.nil (AW.seq (AW.dg 1 [0,1,2,3,4,5] ak hE rfl (by kernel_rfl) (OI.aK (os:=[_,_,_,_,_,_]) rfl ?_)))
 refine aG ce.xC rfl rfl (v:=.bI 1006 bo y.ks.length co) rfl (aG ce.vz rfl rfl (v:=.ptr 1000 b11 0) rfl (aG ce.EY rfl rfl (v:=af5 m) rfl (pV rfl (asP rfl (asF rfl (OL.nil ?_))))));exact AW.ret ⟨(y,B,b11),hI,⟨_,.tmp rfl (.tmp rfl (.tmp rfl .nil)),_,.cons (RO.all rfl rfl (dA ..).symm rfl) (.cons (.le vR) (.cons (.le vR) .nil)),rfl⟩,λid blk hk=>oh (l:=X7 b11 B y.rs) (.cons rfl (.cons rfl (.cons rfl (.cons rfl trivial)))) id blk hk⟩
theorem bg8 {m:bV}{K:List (List Int)}(nK:K.length<=64)(hK:∀ u,u ∈ K->u.length<=64):ai P F.x9 [.d (.sl (K.map (Zt m)))] (.d (.sl (K.map ints))):=by
 refine ai.intro fn.x9 (by rfl) (by rfl) (ay (by rfl)) λE hE=>(AW.sg hE rfl (jK rfl (OL.nil (AW.sg hE rfl (jK rfl (OL.nil (AW.seq ?_)))))))
 refine AW.seq (AW.own 3 18 T.ints 1 rfl rfl (AW.rg hE rfl (aj rfl (fF sl.xC rfl rfl (aj rfl (OL.nil (AW.block ?_)))))));refine AW.aY (α:=Nat × Nat × Nat) [(2,_),(6,_),(7,_)] [] (λ(i,bq,cq)=>[(3,.bI 18 bq i cq),(8,.d (dI i))]) (λ(i,bq,cq)=>[(18,.row bq cq T.ints 1 ((K.take i).map ints))]) (λ(i,bq,cq)=>i<=K.length) (λ(i,bq,cq)=>K.length-i) (0,0,0) (.cons (xK rfl) (.cons (di rfl) (.cons (di rfl) .nil))) .nil ⟨Nat.zero_le _,.iW,.cons rfl .nil⟩ ?_
 rintro⟨i,bq,cq⟩ h1
 have h1:i<=K.length:=h1;refine AW.sg hE rfl (bG rfl rfl rfl (OL.nil (AW.seq (AW.cond rfl (λh9=>?_) (λh9=>?_)))))
 .try simp only[fD] at h9
  refine AW.skip (AW.seq (AW.block (AW.seq ?_)));have hi:i<K.length:=by omega
  have hKi:=hK _ (getD_mem hi []);refine AW.rg hE rfl (dR sl.xC [] rfl rfl hi rfl rfl (iD ag.EX rfl (vs:=[_,_,_]) rfl (ay rfl) (al z.EX rfl λb5=>(fA sz.EX rfl rfl rfl rfl rfl (ay rfl) (cells2:=[_,_,_]) rfl (OL.nil (AW.rg hE rfl (iU rfl ?_)))))));refine bC fd.YM rfl rfl (bC fd.ab3 rfl rfl (aG ce.ints rfl rfl rfl (bH rfl vL (kU.data (MK (l:=K.getD i []) (by omega)) (dA ..).symm) (rF (y:=ints (K.getD i [])) sl.gB (VC.d _).vd rfl (by decide) ?_))))
  refine xZ sl.gB rfl rfl rfl (by rw[dA,List.length_take];omega) (VC.d _) (λy hy=>by rw[jJ hy];rfl) (by simp only[iY];omega) (by simp only[iY];omega) (.inr rfl) (ys:=(K.take (i+1)).map ints) (by rw[iL [] hi,List.map_append];rfl) (n2:=i+1) rfl λb18 c18=>?_
  exact pV rfl (OL.nil (AW.rg hE rfl (aI rfl rfl (by omega) (aj rfl (OL.nil (AW.again (x:=(i,bq,cq)) (i+1,b18,c18) (by (simp only[];omega)) ⟨by omega,Knows.app .yU .iW,.cons rfl .nil⟩))))))
 .try simp only[fD] at h9
  refine AW.exit (AW.seq ?_);obtain rfl:i=K.length:=by omega
  exact AW.rg hE rfl (iU rfl (pV rfl (OL.nil (AW.ret (aP.r ⟨_,.tmp rfl .nil,RO.all rfl rfl (by simp) (by rw[List.take_length])⟩)))))
theorem ao0 {a:Au}{s:Nat}(t:Au.Take a s)(s4:s<=4)(st5:a.st<=5):ai P F.sQ [yV a] (.mM [.d (.sl ((aV (ah [a])).map ints)),.d (dI 0)]):=by
 obtain⟨ok,fl,z6,hn⟩:=JD t s4;have hst1:=t.st1;have hsz:aS [a]=a.st:=kG;have hL:Nu (ah [a]):=C9 ok z6;obtain⟨z,hz,hze⟩:=hL.inv;obtain⟨mv,v⟩:=CX ok hz;have hl6:=(hL.len (by omega)).1
 refine ai.intro fn.sQ (by rfl) (by rfl) (ay (by rfl)) λE hE=>(AW.sg hE rfl (iO rfl rfl λb1=>(jK rfl (aF rfl (OL.nil (AW.seq (AW.sg hE rfl ?_)))))))
 refine aQ ag.Auto rfl rfl (vs:=[_,_,_,_,_,_,_]) rfl (ay rfl) (rF (y:=dAu a) sl.uI SE rfl (by decide) (bH rfl vL (Y5 (l:=[a]) (s:=s) (an1 t.fit) ⟨Nat.le_of_ble_eq_true rfl,Nat.le_of_ble_eq_true rfl⟩) (aF rfl (OL.nil (AW.sg hE rfl (aj rfl (eX rfl rfl (c:=false) (by exact kY (by omega)) ?_)))))))
 refine OL.nil (oH rfl ?_);refine AW.skip (AW.seq (AW.sO (by rw[hE];rfl) (SK.gV (aQ ag.Auto rfl rfl (vs:=[_,_,_,_,_,_,_]) rfl (ay rfl) (OL.nil ?_)))))
 refine SK.gV (rF (y:=dAu a) sl.uI SE rfl (by decide) (OL.nil ?_))
 refine SK.gV (bH rfl .dD (OfQ (l:=[a]) (by rw[show (([a]:List Au).getD 0 default).sym=s from t.fit.sym];exact an1 t.fit) ⟨Nat.le_of_ble_eq_true rfl,Nat.le_of_ble_eq_true rfl⟩ (by omega) (by have:=t.fit.st;omega)) (OL.nil ?_))
 refine SK.Hu (SO.Xx (args':=[wZ (ah [a])]) (show 18<E.n by rw[hE];exact Nat.le_of_ble_eq_true (by rfl)) rfl vL (TP (m:=(ah [a])) (mv:=mv) ok fl z6 (by omega) (by omega) hL v) ?_)
 rintro⟨y,B,b⟩ hI
 have hI:gu mv 16777215 [] y/\y.rs=eG (y.ks.map (aZ (ah [a]) (bL (ah [a])))):=hI;have e1:y.ks=aV (ah [a]):=(CY (hz.first ok v hI.1)).symm
 have hvn:mv.n=(bL (ah [a])).length:=v.n;have hfew:=hI.1.b.few;have a01:=hI.1.b.five (show mv.n<=6 by omega)
 rw[e1] at hfew a01
 dsimp only
 rw[e1];refine SK.gV (Di rfl (OL.nil ?_));refine SK.gV (ex rfl rfl (OL.nil ?_));refine SK.gV (ex rfl rfl (OL.nil ?_));refine SK.gV (ex rfl rfl (OL.nil ?_));refine SK.gV (aF rfl (OL.nil ?_));refine SK.gV (asP rfl (OL.nil ?_));refine SK.gV (asF rfl (OL.nil ?_));exact SK.nil (AW.sg hE rfl (aj rfl (bH rfl vL (bg8 (m:=(ah [a])) (K:=aV (ah [a])) (by omega) (λu hu=>Nat.le_trans (a01 u hu) (by decide))) (aF rfl (aF rfl (OL.nil (AW.ret (aP.r ⟨_,.tmp rfl (.tmp rfl .nil),_,.cons (.le vR) (.cons (.le vR) .nil),rfl⟩))))))))
