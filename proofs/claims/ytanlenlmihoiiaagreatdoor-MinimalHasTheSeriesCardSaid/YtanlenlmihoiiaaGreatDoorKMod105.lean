/-
  M, chapter 24: the minimal realisation, as the code makes it.
-/
import Derived.Test.YtanlenlmihoiiaaGreatDoorKMod103
import Derived.Test.YtanlenlmihoiiaaGreatDoorKWkAD
set_option maxRecDepth 8000
set_option maxHeartbeats 6400000
set_option linter.unusedVariables false
set_option linter.unusedSimpArgs false
namespace Go.AL
open Go Go.BigFrame
section
variable {m:bQ}{B l:Nat}{y z:BK}{K:List (List Int)}{rs:List dh}
structure Us (m mv:bQ):Prop where
 n:mv.n=(jw (aU m)).length
 k:mv.k=m.k
 ok:mv.Ok
 vec:∀ w,iy m.k w->aZ mv w=bG m (jw (aU m)) w
 wt:∀ w,iy m.k w->kU mv w=kU m w
theorem JU (ok:m.Ok)(h:iw (aU m) B [] z):∃ mv,Us m mv:=by
 obtain⟨V,j,_⟩:=h.join;have hw:=h.uN;rw[h.bas] at j hw;rw[lg] at hw;obtain⟨mv,h1,h2,h3,h4,h5⟩:=ak4 ok j hw;exact⟨mv,h1,h2,h3,h4,h5⟩
theorem iw.first (ok:m.Ok)(h:iw (aU m) B [] z){mv:bQ}(v:Us m mv)(hy:iw mv B [] y):mG m.k (λu l=>kU m (u++l)) y.ks:=by
 obtain⟨V2,j2,_⟩:=h.join;obtain⟨V,j,_⟩:=hy.join;have hw:=h.uN;rw[h.bas] at j2 hw;rw[lg] at hw;have inw:∀ u,u ∈ y.ks->iy m.k u:=λu hu=>by rw[<- v.k];exact hy.uN u hu
 have f:=L9 (ρ:=id) (K:=y.ks) (rs:=y.rs) rfl ok j2 hw hy.ord inw (λw hw=>by
   have h1:=j.EO.reach w (by rw[v.k];exact hw) λq hq=>by cases hq
   rw[v.n,v.vec w hw] at h1;refine h1.mono λb hb=>?_;obtain⟨u,hu,rfl⟩:=jH hb;exact List.mem_map.2 ⟨u,hu,(v.vec u (inw u (eY.1 hu).1)).symm⟩) (by rw[<- v.n];exact j.ech) j.len λr hr=>by
   have h1:=j.rows r hr;rw[v.n] at h1;refine h1.mono λb hb=>?_;obtain⟨u,hu,rfl⟩:=jH hb;exact List.mem_map.2 ⟨u,hu,(v.vec u (inw u hu)).symm⟩
 refine f.rev.congr λu l _ hl=>?_;show kU m (u++l)=jW m u l.reverse
 rw[Bv l.reverse u (ED hl),List.reverse_reverse]
theorem iw.rank (ok:m.Ok)(h:iw (aU m) B [] z){mv:bQ}(v:Us m mv)(hy:iw mv B [] y):y.ks.length=EI m.k (kU m):=by
 obtain⟨V2,j2,_⟩:=h.join;rw[h.bas] at j2;exact WI ok j2 v.n v.k v.vec hy
theorem Sl (ho:K.Pairwise λa b=>qN a b<0)(hp:∀ u,u ∈ K->u≠[]->∃ x,x ∈ K/\x.length+1=u.length):∀ (q i:Nat) (hi:i<K.length),K[i].length=q->q<=i:=by
 intro q
 induction q with
 | zero=>intro i _ _;exact Nat.zero_le _
 | succ q ih =>
  intro i hi hq;obtain⟨x,hx,hxl⟩:=hp K[i] (List.getElem_mem hi) λe=>by rw[e] at hq;cases hq
  obtain⟨t,ht,rfl⟩:=List.mem_iff_getElem.1 hx;have h1:=ih t ht (by omega)
  have h2:t<i:=by
   rcases Nat.lt_trichotomy t i with g|g|g
   .exact g
   .subst g;omega
   .have h3:=List.pairwise_iff_getElem.1 ho i t hi ht g;have h4:=Nc (Int.le_of_lt h3);omega
  omega
theorem FX (ho:K.Pairwise λa b=>qN a b<0)(hp:∀ u,u ∈ K->u≠[]->∃ x,x ∈ K/\x.length+1=u.length):∀ u,u ∈ K->u.length<K.length:=λu hu=>by
 obtain⟨i,hi,rfl⟩:=List.mem_iff_getElem.1 hu;exact Nat.lt_of_le_of_lt (Sl ho hp _ i hi rfl) hi
theorem iw.short (h:iw m B [] y):∀ u,u ∈ y.ks->u.length<y.ks.length:=FX h.ord λu hu hne=>⟨u.dropLast,h.closed hu hne,by
 have:=List.length_pos_iff.2 hne;rw[List.length_dropLast];omega⟩
structure PE (m:bQ) (K:List (List Int)):Prop where
 first:mG m.k (λw l=>kU m (l++w)) K
 tail:∀ s u,s::u ∈ K->u ∈ K
 rank:K.length=EI m.k (kU m)
theorem PE.unique {K':List (List Int)}(h:PE m K)(h':PE m K'):K=K':=h.first.unique h'.first
theorem PE.short (h:PE m K):∀ u,u ∈ K->u.length<K.length:=FX h.first.ord λu hu hne=>by
 cases u with
 | nil=>exact absurd rfl hne
 | cons s u=>exact⟨u,h.tail s u hu,rfl⟩
noncomputable abbrev al7 (m:bQ):List Int->List Rat:=λw=>bG (aU m) (jw (aU (aU m))) w.reverse
theorem Sr (ok:m.Ok)(h:iw (aU (aU m)) B [] z):Sj m.k (jw (aU (aU m))).length (al7 m):=by
 obtain⟨mv,v⟩:=JU (qC ok) h;exact⟨mv,v.n,v.k.trans lg,λw hw=>(v.vec w.reverse (by rw[lg];exact ED hw)).symm⟩
theorem Lc.fin (ok:m.Ok)(hk:1<=m.k)(h:iw (aU (aU m)) B [] z)(s:Lc m.k (jw (aU (aU m))).length B (al7 m) l [] K rs):PE m K:=by
 have hf:=Sr ok h;have all:=s.all hf hk;have reach:∀ w,iy m.k w->cZ (jw (aU (aU m))).length ((upTo K w).map (al7 m)) (vf (al7 m w)):=λw hw=>all w.length w rfl hw;obtain⟨V2,j2,_⟩:=h.join;have hw:=h.uN;rw[h.bas] at j2 hw;rw[lg,lg] at hw;have f:=L9 (m:=aU m) (ρ:=List.reverse) (K:=K) (rs:=rs) (k:=m.k) lg (qC ok) j2 hw s.s.ord s.s.uN reach s.s.sp.ech s.s.len s.s.rows;refine⟨f.congr λw l hw hl=>?_,s.s.tail,?_⟩
 .show kU m (l++w)=jW (aU m) w.reverse l
  rw[Bv l w.reverse (by rw[lg];exact hl),ZW λx hx=>?_]
  .rw[List.reverse_append,List.reverse_reverse,List.reverse_reverse]
  .rcases ru hx with hx|hx
   .exact hw x (List.mem_reverse.1 hx)
   .exact hl x (List.mem_reverse.1 hx)
 .rw[<- s.s.len];have hr:=YZ (m:=aU m) (U:=K.map List.reverse) (qC ok) j2 s.s.sp.ech (λr hr=>by
    have h1:=s.s.rows r hr;rw[List.map_map];exact h1) (λu hu=>by
    obtain⟨x,hx,rfl⟩:=jH hu;rw[lg];exact ED (s.s.uN x hx)) λw hw=>by
    rw[lg] at hw;have h1:=reach w.reverse (ED hw);rw[show al7 m w.reverse=bG (aU m) (jw (aU (aU m))) w by show bG _ _ w.reverse.reverse=_;rw[List.reverse_reverse]] at h1
    refine h1.trans λb hb=>?_;obtain⟨u,hu,rfl⟩:=jH hb;exact s.s.kept u (eY.1 hu).1
  rw[hr];have h1:=Kz (aU m);rw[lg,ah2 (g:=λw=>kU m w.reverse) λw hw=>ZW hw] at h1;have h2:=ah3 (Kz m) h1;rw[lg];exact h2
def lU (vs:List (List Rat)):List dh:=vs.foldl tq []
theorem xC {vs:List (List Rat)}{v:List Rat}:lU (vs++[v])=tq (lU vs) v:=by unfold lU;rw[List.foldl_append];rfl
theorem aG2 {n:Nat}(h1:1<=B):∀ (vs:List (List Rat)),(∀ v,v ∈ vs->v.length=n)->(∀ v,v ∈ vs->∀ i,sz (v.getD i 0)<=B)->qU n B (lU vs)/\JA n vs (lU vs)/\∀ r,r ∈ lU vs->r.p=eU r.v:=by
 intro vs
 induction hq:vs.length generalizing vs with
 | zero=>intro _ _;rw[EQ hq];exact⟨qU.nil,JA.nil,λ_ h=>by cases h⟩
 | succ q ih =>
  intro hl hz;obtain⟨P,x,rfl⟩:∃ u x,vs=u++[x]:=⟨vs.dropLast,vs.getLast (λh=>by rw[h] at hq;cases hq),(List.dropLast_concat_getLast _).symm⟩
  rw[jd,kC] at hq;have hx:=hl x (List.mem_append.2 (.inr (List.mem_singleton.2 rfl)));obtain⟨a,b,c⟩:=ih P (by omega) (λv hv=>hl v (List.mem_append.2 (.inl hv))) (λv hv=>hz v (List.mem_append.2 (.inl hv)))
  rw[xC];exact⟨a.add hx h1 (hz x (List.mem_append.2 (.inr (List.mem_singleton.2 rfl)))),b.add a.ech hx,WB c⟩
end
open Classical in
noncomputable def bn (m:bQ):List (List Int):=if h:∃ K,mG m.k (λu l=>kU m (u++l)) K then h.choose else []
open Classical in
noncomputable def Ld (m:bQ):List (List Int):=if h:∃ K,PE m K then h.choose else []
theorem Nv {m:bQ}{K:List (List Int)}(f:mG m.k (λu l=>kU m (u++l)) K):bn m=K:=by
 have h:∃ K,mG m.k (λu l=>kU m (u++l)) K:=⟨K,f⟩;unfold bn;rw[dif_pos h];exact h.choose_spec.unique f
theorem aV6 {m:bQ}{K:List (List Int)}(f:PE m K):Ld m=K:=by
 have h:∃ K,PE m K:=⟨K,f⟩;unfold Ld;rw[dif_pos h];exact h.choose_spec.unique f
end Go.AL
namespace Go.Proofs.YtanlenlmihoiiaaGreatDoor
open Go Go.AL
noncomputable abbrev bL (m:bQ):List (List Int):=jw (aU m)
noncomputable abbrev al8 (m:bQ)(w:List Int):D:=.ag [ints w,gm (aZ m w),gm (bG m (bL m) w)]
noncomputable abbrev bF5 (m:bQ)(w:List Int):V:=.ag [.d (ints w),.d (gm (aZ m w)),.d (gm (bG m (bL m) w))]
theorem bg4 {m:bQ}{w:List Int}:VD (bF5 m w) (al8 m w):=VD.ag (.cons (VC.d _) (.cons (VC.d _) (.cons (VC.d _) .nil)))
noncomputable abbrev ac8 (m:bQ):V:=.fn F.ji [.ref [JC (aU m) (bL m)]]
noncomputable def kP (m:bQ)(b bs bx bv:Nat):KM BSt:=⟨λy=>boxS b y.2.1 y.1.rs,λy=>Yn y.2.1 y.1.rs,λy=>BL y.2.1 y.1.rs,λy=>rowP y.2.1 y.1.rs,λ_=>.box bs T.uU [.ptr 1000 b 0],λy=>.box bx T.yJ [.bK 1006 y.2.2.1 y.1.ks.length y.2.2.2],λy=>.row y.2.2.1 y.2.2.2 T.G7 3 (y.1.ks.map (al8 m)),λ_=>.box bv T.Ej [ac8 m]⟩
noncomputable def BD (v:List Rat)(w:List Int)(y:BK):Bool × BK:=if bW y.rs v=true then (true,⟨y.ks++[w],y.rs++[newR y.rs v]⟩) else (false,y)
theorem Ut {v:List Rat}{w:List Int}{y:BK}(h:bW y.rs v=true):BD v w y=(true,⟨y.ks++[w],y.rs++[newR y.rs v]⟩):=if_pos h
theorem Uu {v:List Rat}{w:List Int}{y:BK}(h:bW y.rs v=false):BD v w y=(false,y):=if_neg (by rw[h];exact Bool.false_ne_true)
structure al9 (m:bQ):Prop where
 inv:∃ z,iw (aU m) 16777215 [] z/\z.ks=bL m
theorem aV7 {m:bQ}{e:Nat}(ok:m.Ok)(z6:m.Sz e):al9 m:=⟨Nl (qC ok) z6.n6 (by decide) λw _ h6 i=>Nat.le_trans (mV z6.turn h6 i) (by decide)⟩
theorem al9.len {m:bQ}(h:al9 m)(n6:m.n<=6):(bL m).length<=m.n/\(∀ l,l ∈ bL m->l.length<=5)/\∀ l,l ∈ bL m->iy m.k l:=by
 obtain⟨z,hz,e⟩:=h.inv;refine⟨by rw[<- e];exact hz.b.few.2,(Dj hz (show (aU m).n<=6 from n6)).2.1,λl hl=>?_⟩
 have:=(Dj hz (show (aU m).n<=6 from n6)).2.2 l hl
 rwa [lg] at this
theorem Y1 {m:bQ}{L:List (List Int)}{w:List Int}{y:BK}(h:y.rs=lU (y.ks.map (bG m L))):(BD (bG m L w) w y).2.rs=lU ((BD (bG m L w) w y).2.ks.map (bG m L)):=by
 cases hg:bW y.rs (bG m L w) with
 | true =>
  rw[Ut hg,List.map_append,List.map_cons,List.map_nil,xC,<- h];exact (if_pos hg).symm
 | false=>rw[Uu hg];exact h
theorem am0 {m:bQ}{B:Nat}{Q:List (List Int)}{y:BK}(h:iw m B Q y):∀ w,w ∈ Q->iy m.k w:=λw hw=>by
 obtain⟨V,j,_⟩:=h.join;exact j.EO.uN w (.inr hw)
theorem Sv {m:bQ}{B:Nat}{Q:List (List Int)}{y:BK}(h:iw m B Q y)(n5:m.n<=5):∀ w,w ∈ Q->w.length<=5:=λw hw=>by
 obtain⟨V,j,_⟩:=h.join;rcases j.EO.par w hw with rfl|⟨u,hu,s,_,rfl⟩
 .exact Nat.zero_le _
 .obtain⟨i,hi,rfl⟩:=List.mem_iff_getElem.1 hu;have h1:=h.len.kept i _ (lF hi);have h2:=h.b.few;rw[jd,kC];omega
theorem Y2 {m:bQ}{e b bs bx bv:Nat}{w:List Int}{y:BK}{B:P7}{bo co:Nat}(ok:m.Ok)(z6:m.Sz e)(hL:al9 m)(sp:qU (bL m).length 16777215 y.rs)(hw:w.length<=5)(hk:y.ks.length<=64):jD P F.lZ [ah8 m w,.ptr 1007 bv 0,.ptr 1004 bs 0,.ptr 1005 bx 0] (kmM (kP m b bs bx bv) (y,B,bo,co)) (λz:Bool × BSt=>.d (dB z.1)) (λz=>kmM (kP m b bs bx bv) z.2) (λz=>z.1=(BD (bG m (bL m) w) w y).1/\z.2.1=(BD (bG m (bL m) w) w y).2):=by
 obtain⟨ks,rs⟩:=y;have sp:qU (bL m).length 16777215 rs:=sp;have hk:ks.length<=64:=hk;have n6:=z6.n6;obtain⟨hl6,hl5,_⟩:=hL.len n6;have hvl:(bG m (bL m) w).length=(bL m).length:=jQ;have hvz:∀ j,sz ((bG m (bL m) w).getD j 0)<=16777215:=λj=>KY z6 hw hl5 j;refine jD.intro fn.lZ (by rfl) (by rfl) (au (by rfl)) λE hE=>(AW.sg hE rfl (iG rfl rfl λb4=>(aG rfl (OL.nil (AW.seq (AW.dg 1 [0,1,2,3,4,5,6,7] ak hE rfl (by kernel_rfl) (OI.aP (os:=[_,_,_,_,_,_,_,_]) rfl ?_)))))))
 refine aQ ag.Row rfl rfl (vs:=[_,_]) rfl (au rfl) (aA ce.Ej rfl rfl rfl (aV fd.QJ rfl rfl (aA ce.bF rfl rfl rfl (bP rfl .jm (aa7 (m:=m) (L:=bL m) (u:=w) ok z6 (by omega) (by omega) (λl hl=>Nat.le_succ_of_le (hl5 l hl))) (Ko (cs:=[_,_,_]) z.G7 pl.G7 (jR (U7 rfl) (jR (rq rfl) J9)) (by rfl) (al z.G7 rfl λb6=>(eG sz.G7 rfl rfl rfl rfl rfl (au rfl) (cells2:=[_,_,_]) rfl ?_)))))))
 refine OL.nil (AW.seq (AW.seq (AW.yP (by rw[hE];rfl) (SK.jK (aA ce.uU rfl rfl (v:=.ptr 1000 b 0) rfl (OL.nil ?_))))))
 refine SK.jK (aV fd.ba9 rfl rfl (OL.nil ?_));refine SK.jK (aA ce.bF rfl rfl (v:=.d (gm (bG m (bL m) w))) rfl (OL.nil ?_));refine SK.G6 (SO.Og (args':=[.ptr 1000 b 0,.d (gm (bG m (bL m) w))]) (show 16<E.n by rw[hE];exact Nat.le_of_ble_eq_true (by rfl)) rfl vL (Mc:=spM b B rs) (λid blk hk=>oz (l:=Yo b B rs) (.cons rfl (.cons rfl (.cons rfl (.cons rfl trivial)))) id blk hk) (bp7 (b:=b) (B:=B) sp hvl (by omega) hvz) (λx _ id hk=>V8 id hk) ?_)
 rintro B2 -
 refine SK.jK (nt rfl (OL.nil ?_));refine SK.nil (AW.cond rfl (λhg=>?_) (λhg=>?_))
 .have hg:bW rs (bG m (bL m) w)=false:=by simpa using hg
  rw[show tq rs (bG m (bL m) w)=rs from if_neg (by rw[hg];exact Bool.false_ne_true)]
  refine AW.sg hE rfl (aG rfl (OL.nil ?_));exact AW.ret ⟨(false,(⟨ks,rs⟩,B2,bo,co)),⟨(congrArg Prod.fst (Uu (y:=⟨ks,rs⟩) hg)).symm,(congrArg Prod.snd (Uu (y:=⟨ks,rs⟩) hg)).symm⟩,⟨_,.tmp rfl .nil,.le vR⟩,λid blk hk=>oz (l:=kmL (kP m b bs bx bv) (⟨ks,rs⟩,B2,bo,co)) (.cons rfl (.cons rfl (.cons rfl (.cons rfl (.cons rfl (.cons rfl (.cons rfl (.cons rfl trivial)))))))) id blk hk⟩
 .have hg:bW rs (bG m (bL m) w)=true:=by simpa using hg
  rw[show tq rs (bG m (bL m) w)=rs++[newR rs (bG m (bL m) w)] from if_pos hg]
  refine AW.skip (AW.sg hE rfl (aA ce.yJ rfl rfl (v:=.bK 1006 bo ks.length co) rfl (aQ ag.G7 rfl rfl (vs:=[_,_,_]) rfl (au rfl) (xG (y:=al8 m w) sl.yJ bg4 rfl (by decide) ?_))))
  refine Am sl.yJ rfl rfl rfl (by rw[dL]) (VC.d _) (λy hy=>by rw[lV hy];rfl) (by simp;omega) (by simp;omega) (.inl rfl) (ys:=(ks++[w]).map (al8 m)) (by rw[List.map_append];rfl) (n2:=ks.length+1) rfl λb21 c21=>?_
  refine eG sz.yJ rfl rfl rfl rfl rfl (au rfl) rfl (OL.nil (AW.seq ?_));have hln:(ks++[w]).length=ks.length+1:=jd;refine AW.to [] [(1000,boxS b B2 (rs++[newR rs (bG m (bL m) w)])),(1001,Yn B2 (rs++[newR rs (bG m (bL m) w)])),(1002,BL B2 (rs++[newR rs (bG m (bL m) w)])),(1003,rowP B2 (rs++[newR rs (bG m (bL m) w)])),(1004,.box bs T.uU [.ptr 1000 b 0]),(1005,.box bx T.yJ [.bK 21 b21 (ks.length+1) c21]),(21,.row b21 c21 T.G7 3 ((ks++[w]).map (al8 m))),(1007,.box bv T.Ej [ac8 m])] .nil (.cons rfl (.cons rfl (.cons rfl (.cons rfl (.cons rfl (.cons rfl (.cons rfl (.cons rfl (.nil))))))))) ?_;refine AW.rename 21 1006 rfl (AW.pV 1005 [.bK 1006 b21 (ks.length+1) c21] rfl (.cons bV.bK .nil) ?_);refine AW.rg hE rfl (aG rfl (OL.nil ?_));exact AW.ret ⟨(true,(⟨ks++[w],rs++[newR rs (bG m (bL m) w)]⟩,B2,b21,c21)),⟨(congrArg Prod.fst (Ut (y:=⟨ks,rs⟩) hg)).symm,(congrArg Prod.snd (Ut (y:=⟨ks,rs⟩) hg)).symm⟩,⟨_,.tmp rfl .nil,.le vR⟩,λid blk hk=>oz (l:=kmL (kP m b bs bx bv) (⟨ks++[w],rs++[newR rs (bG m (bL m) w)]⟩,B2,b21,c21)) (.cons rfl (.cons rfl (.cons rfl (.cons rfl (.cons rfl (.cons (by show _=some (iI.box bx T.yJ [.bK 1006 b21 (ks++[w]).length c21]);rw[hln];rfl) (.cons rfl (.cons rfl trivial)))))))) id blk hk⟩
theorem am1 {m mv:bQ}{e:Nat}(ok:m.Ok)(fl:m.Full)(z6:m.Sz e)(n5:m.n<=5)(hL:al9 m)(v:Us m mv):jD P F.sG [uD m] jA (λz:BK × P7 × Nat=>.oM [.d (.sl (z.1.ks.map (al8 m))),.ptr 1000 z.2.2 0,ac8 m]) (λz=>spM z.2.2 z.2.1 z.1.rs) (λz=>iw mv 16777215 [] z.1/\z.1.rs=lU (z.1.ks.map (bG m (bL m)))):=by
 have n6:=z6.n6;have k4:=z6.k2;have hln:=hL.len n6;have hvn:mv.n=(bL m).length:=v.n;have hvk:mv.k=m.k:=v.k;refine jD.intro fn.sG (by rfl) (by rfl) (au (by rfl)) λE hE=>(AW.sg hE rfl (iG rfl rfl λb1=>(nI rfl (aG rfl (aG rfl (OL.nil (AW.sg hE rfl ?_)))))))
 refine al z.yJ rfl λb5=>(OL.nil (AW.seq (AW.yP (by rw[hE];rfl) (SK.jK (aQ ag.Machine rfl rfl (vs:=[_,_,_]) rfl (au rfl) (OL.nil ?_))))))
 refine SK.G6 (SO.Og (args':=[uD m]) (show 9<E.n by rw[hE];exact Nat.le_of_ble_eq_true (by rfl)) rfl vL (Mc:=jA) (λ_ _ h=>by cases h) (be9 (m:=m) ok fl z6) (λ_ _ _ h=>h) ?_)
 rintro y1 hI1
 have hI1:iw (aU m) 16777215 [] y1:=hI1;rw[hI1.bas];refine SK.jK (bd z.Space pl.Space (cs:=[_,_,_]) rfl (OL.nil ?_));refine SK.jK (iG rfl rfl λb11=>OL.nil ?_);refine SK.jK (al z.Ej rfl λb6=>OL.nil ?_);refine SK.jK (al z.uU rfl λb7=>OL.nil ?_);refine SK.jK (eG sz.Ej rfl rfl rfl rfl rfl (au rfl) (cells2:=[_]) rfl (OL.nil ?_));refine SK.jK (eG sz.uU rfl rfl rfl rfl rfl (au rfl) (cells2:=[_]) rfl (OL.nil ?_));refine SK.nil (AW.seq (AW.rename 11 1000 rfl (AW.vz 1001 T.bF 1 rfl (AW.vz 1002 T.bF 1 rfl (AW.vz 1003 T.int 1 rfl (AW.pV 1000 [.bK 1001 0 0 0,.bK 1002 0 0 0,.bK 1003 0 0 0] rfl (.cons lK (.cons lK (.cons lK .nil))) (AW.rename 7 1004 rfl ?_)))))));refine AW.pV 1004 [.ptr 1000 b11 0] rfl (.cons bV.ptr .nil) (AW.rename 5 1005 rfl (AW.vz 1006 T.G7 3 rfl (AW.pV 1005 [.bK 1006 0 0 0] rfl (.cons lK .nil) (AW.rename 6 1007 rfl ?_))));refine AW.to [(1,.ptr 1 b1 0),(2,.mt),(5,.ptr 1005 b5 0),(6,.ptr 1007 b6 0),(7,.ptr 1004 b7 0)] ((1,.box b1 T.Machine [.d (gm m.ini),.d (gm m.fin),.d (.sl (m.gV.map kN))])::kmL (kP m b11 b7 b5 b6) ((⟨[],[]⟩,(default:P7),0,0):BSt)) (.cons bV.ptr (.cons vR (.cons bV.ptr (.cons bV.ptr (.cons bV.ptr .nil))))) (.cons rfl (.cons rfl (.cons rfl (.cons rfl (.cons rfl (.cons rfl (.cons rfl (.cons rfl (.cons rfl (.nil)))))))))) ?_;refine AW.yP (by rw[hE];rfl) (SK.jK (aQ ag.Machine rfl rfl (vs:=[_,_,_]) rfl (au rfl) (OL.nil ?_)))
 refine SK.jK (mkF (vs:=[_,_,_]) rfl (OL.nil ?_));refine SK.G6 (SO.Og (args':=[uD m,.fn F.lZ [.ptr 1007 b6 0,.ptr 1004 b7 0,.ptr 1005 b5 0]]) (show 14<E.n by rw[hE];exact Nat.le_of_ble_eq_true (by rfl)) rfl vL (Mc:=kmM (kP m b11 b7 b5 b6) ((⟨[],[]⟩,(default:P7),0,0):BSt)) (λid blk hk=>oz (l:=kmL (kP m b11 b7 b5 b6) ((⟨[],[]⟩,(default:P7),0,0):BSt)) (.cons rfl (.cons rfl (.cons rfl (.cons rfl (.cons rfl (.cons rfl (.cons rfl (.cons rfl trivial)))))))) id blk hk)
  (Wl (m:=m) (k:=kP m b11 b7 b5 b6) (I:=λQ y=>iw mv 16777215 Q y.1/\y.1.rs=lU (y.1.ks.map (bG m (bL m)))) (μ:=λQ y=>jM mv Q y.1.rs) ok fl z6 (λQ y hI=>⟨hI.1.b.six (by omega),Nat.le_add_right _ _⟩)
   (λw Q y hI=>L6 (Y2 (y:=y.1) (B:=y.2.1) (bo:=y.2.2.1) (co:=y.2.2.2) ok z6 hL (by rw[<- hvn];exact hI.1.sp) (Sv hI.1 (by omega) w rY) (by have:=hI.1.b.few;omega)) λz hz=>by
    have hwi:iy m.k w:=by have h:=am0 hI.1 w rY;rwa [hvk] at h
    have hv:=v.vec w hwi;have h9:=hI.1.next v.ok (by decide) (λi=>by rw[hv];exact KY z6 (Sv hI.1 (by omega) w rY) hln.2.1 i)
    have e9:oL mv w y.1=BD (bG m (bL m) w) w y.1:=by unfold oL BD;rw[hv]
    rw[e9,<- hz.1,<- hz.2,hvk] at h9;have hr:z.2.1.rs=lU (z.2.1.ks.map (bG m (bL m))):=by rw[hz.2];exact Y1 hI.2
    exact⟨λht=>⟨⟨(h9.1 ht).1,hr⟩,(h9.1 ht).2⟩,λhf=>⟨⟨(h9.2 hf).1,hr⟩,(h9.2 hf).2⟩⟩) ⟨iw.start mv 16777215,rfl⟩ (by
     show [([]:List Int)].length+(mv.k+1)*(mv.n-0)<=1000
     have h9:=Nat.mul_le_mul (show mv.k+1<=5 by omega) (show mv.n-0<=6 by omega)
     rw[kC];omega)) (λx _ id hk=>O7 id hk) ?_)
 rintro⟨y,B,bo,co⟩ hI
 have hI:iw mv 16777215 [] y/\y.rs=lU (y.ks.map (bG m (bL m))):=hI;refine SK.nil (AW.seq (AW.dg 1 [0,1,2,3,4,5] ak hE rfl (by kernel_rfl) (OI.aP (os:=[_,_,_,_,_,_]) rfl ?_)))
 refine aA ce.yJ rfl rfl (v:=.bK 1006 bo y.ks.length co) rfl (aA ce.uU rfl rfl (v:=.ptr 1000 b11 0) rfl (aA ce.Ej rfl rfl (v:=ac8 m) rfl (uf rfl (asP rfl (asF rfl (OL.nil ?_))))));exact AW.ret ⟨(y,B,b11),hI,⟨_,.tmp rfl (.tmp rfl (.tmp rfl .nil)),_,.cons (RO.all rfl rfl (dL ..).symm rfl) (.cons (.le vR) (.cons (.le vR) .nil)),rfl⟩,λid blk hk=>oz (l:=Yo b11 B y.rs) (.cons rfl (.cons rfl (.cons rfl (.cons rfl trivial)))) id blk hk⟩
end Go.Proofs.YtanlenlmihoiiaaGreatDoor
namespace Go.AL
open Go Go.BigFrame
noncomputable def lD (m:bQ)(K:List (List Int))(i s:Nat):List Rat:=jU (lU (K.map (bG m (jw (aU m))))) (bG m (jw (aU m)) (K.getD i []++[((s+1:Nat):Int)]))
noncomputable def Qn (m:bQ)(K:List (List Int))(i s j:Nat):bM:=⟨i,s+1,j,(lD m K i s).getD j 0⟩
noncomputable def Uw (m:bQ)(K:List (List Int))(i s:Nat):List bM:=(List.range K.length).map (Qn m K i s)
noncomputable def Y3 (m:bQ)(K:List (List Int))(i:Nat):List bM:=(List.range m.k).flatMap (Uw m K i)
noncomputable def qV (m:bQ)(K:List (List Int)):List bM:=(List.range K.length).flatMap (Y3 m K)
noncomputable def Qo (m:bQ)(K:List (List Int))(i:Nat):List bM:=(List.range i).flatMap (Y3 m K)
noncomputable def PI (m:bQ)(K:List (List Int))(i s:Nat):List bM:=Qo m K i++(List.range s).flatMap (Uw m K i)
noncomputable def MN (m:bQ)(K:List (List Int))(i s j:Nat):List bM:=PI m K i s++(List.range j).map (Qn m K i s)
def EP (n:Nat):List Rat:=(List.range n).map λi=>if i=0 then 1 else 0
section
variable {m:bQ}{K:List (List Int)}{i s j n B e:Nat}{u:List Int}{rs:List dh}
theorem GU {α:Type}(f:Nat->List α)(k:Nat):(List.range (k+1)).flatMap f=(List.range k).flatMap f++f k:=by
 rw[List.range_succ,List.flatMap_append,List.flatMap_cons,List.flatMap_nil,List.append_nil]
theorem SA:MN m K i s (j+1)=MN m K i s j++[Qn m K i s j]:=by
 unfold MN;rw[List.range_succ,List.map_append,<- List.append_assoc];rfl
theorem SB:MN m K i s 0=PI m K i s:=List.append_nil _
theorem Xa:MN m K i s K.length=PI m K i (s+1):=by
 unfold MN PI;rw[GU,<- List.append_assoc];rfl
theorem SC:PI m K i 0=Qo m K i:=List.append_nil _
theorem Xb:PI m K i m.k=Qo m K (i+1):=by
 unfold PI Qo;rw[GU];rfl
theorem Xc:Qo m K K.length=qV m K:=rfl
theorem Ai:(EP n).length=n:=by simp[EP]
theorem aG3 (hi:i<n):(EP n).getD i 0=if i=0 then 1 else 0:=aO _ _ hi
theorem PK {x:bM}:x ∈ qV m K ↔ ∃ i,i<K.length/\∃ s,s<m.k/\∃ j,j<K.length/\x=Qn m K i s j:=by
 unfold qV;rw[List.mem_flatMap];constructor
 .rintro⟨i,hi,h⟩
  obtain⟨s,hs,h⟩:=List.mem_flatMap.1 h;obtain⟨j,hj,rfl⟩:=jH h;exact⟨i,List.mem_range.1 hi,s,List.mem_range.1 hs,j,List.mem_range.1 hj,rfl⟩
 .rintro⟨i,hi,s,hs,j,hj,rfl⟩
  exact⟨i,List.mem_range.2 hi,List.mem_flatMap.2 ⟨s,List.mem_range.2 hs,List.mem_map.2 ⟨j,List.mem_range.2 hj,rfl⟩⟩⟩
theorem JV {α:Type}{f:Nat->List α}{c:Nat}(h:∀ i,(f i).length=c):∀ k,((List.range k).flatMap f).length=k*c
 | 0=>by rw[Nat.zero_mul];rfl
 | k+1=>by rw[GU,jd,JV h k,h,Nat.succ_mul]
theorem Xd:(Uw m K i s).length=K.length:=by simp[Uw]
theorem aG4:(Y3 m K i).length=m.k*K.length:=JV (λ_=>Xd) m.k
theorem JW:(Qo m K i).length=i*(m.k*K.length):=JV (λ_=>aG4) i
theorem aG5:(PI m K i s).length=i*(m.k*K.length)+s*K.length:=by
 unfold PI;rw[jd,JW,JV (λ_=>Xd)]
theorem aG6:(MN m K i s j).length=i*(m.k*K.length)+s*K.length+j:=by
 unfold MN;rw[jd,aG5,dL,List.length_range]
theorem JX {L:List (List Int)}(z:m.Sz e)(hu:u.length<=3)(hL:∀ l,l ∈ L->l.length<=3)(i:Nat):sz ((bG m L u).getD i 0)<=201700:=by
 have bound:∀ {m:bQ},m.Sz e->∀ {w:List Int},w.length<=3->∀ i,sz ((aZ m w).getD i 0)<=16807:=λ{m} z {w} hw i=>by
  have h:=Jz z w.length w rfl i;have h1:7 ^ w.length<=343:=Nat.pow_le_pow_right (n:=7) (by decide) hw
  have h2:7 ^ w.length*(2*e+1)<=343*49:=Nat.mul_le_mul h1 (by have:=z.e24;omega)
  omega
 rcases Nat.lt_or_ge i L.length with hi|hi
 .rw[Ah hi];have h:=KH (n:=m.n) z.n6 (bound z hu) (bound z.turn (hL _ (getD_mem hi [])));exact Nat.le_trans h (by omega)
 .rw[xu (by rw[jQ];exact hi),fH];decide
theorem aG7 {w:List Rat}(h:MJ B rs)(h1:1<=B)(hw:∀ i,sz (w.getD i 0)<=B)(i:Nat):sz ((jU rs w).getD i 0)+1<=4 ^ rs.length*(B+1):=h.sZ h1 hw rs.length i
theorem am2:(lD m K i s).length=(lU (K.map (bG m (jw (aU m))))).length:=Ae _ _
theorem Xe (z:m.Sz e)(hL:∀ l,l ∈ jw (aU m)->l.length<=3)(hK:∀ u,u ∈ K->u.length<=2)(h3:K.length<=3)(hr:(lU (K.map (bG m (jw (aU m))))).length<=3)(i s j:Nat):sz ((lD m K i s).getD j 0)<=134217728:=by
 have hv:∀ v,v ∈ K.map (bG m (jw (aU m)))->∀ i,sz (v.getD i 0)<=201700:=λv hv i=>by
  obtain⟨u,hu,rfl⟩:=jH hv;exact JX z (Nat.le_succ_of_le (hK u hu)) hL i
 obtain⟨sp,_,_⟩:=aG2 (n:=(jw (aU m)).length) (B:=201700) (by decide) (K.map (bG m (jw (aU m)))) (λv hv=>by obtain⟨u,_,rfl⟩:=jH hv;exact jQ) hv
 have hki:(K.getD i []).length<=2:=by
  rcases Nat.lt_or_ge i K.length with hi|hi
  .exact hK _ (getD_mem hi [])
  .rw[iO,List.getElem?_eq_none hi];exact Nat.zero_le _
 have h:=aG7 sp.sz (by decide) (w:=bG m (jw (aU m)) (K.getD i []++[((s+1:Nat):Int)])) (λq=>JX z (by rw[jd,kC];omega) hL q) j
 have h4:=Nat.pow_le_pow_right (n:=4) (by decide) hr
 have h5:=Nat.mul_le_mul_right (201700+1) h4;unfold lD;omega
theorem JY (hs:s<m.k)(hi:i<K.length)(hj:j<K.length):iH (qV m K) s i j=(lD m K i s).getD j 0:=by
 have key:∀ (g:Nat->List bM) (N:Nat) (t:Nat),(∀ x,x<N->x≠t->iH (g x) s i j=0)->t<N->iH ((List.range N).flatMap g) s i j=iH (g t) s i j:=by
  intro g N t h0 ht;have low:∀ q,q<=N->iH ((List.range q).flatMap g) s i j=if t<q then iH (g t) s i j else 0:=by
   intro q
   induction q with
   | zero=>intro _;rw[if_neg (Nat.not_lt_zero _)];rfl
   | succ q ih =>
    intro hq;rw[GU,qH,ih (by omega)]
    by_cases e:q=t
    .subst e;rw[if_neg (Nat.lt_irrefl _),if_pos (Nat.lt_succ_self _),Rat.zero_add]
    .rw[h0 q (by omega) e,Rat.add_zero]
     by_cases hlt:t<q
     .rw[if_pos hlt,if_pos (by omega)]
     .rw[if_neg hlt,if_neg (by omega)]
  rw[low N (Nat.le_refl _),if_pos ht]
 unfold qV;rw[key (Y3 m K) K.length i (λx _ hx=>?_) hi]
 .unfold Y3;rw[key (Uw m K i) m.k s (λx _ hx=>?_) hs]
  .have e:Uw m K i s=(List.range K.length).flatMap λj=>[Qn m K i s j]:=by
    unfold Uw
    induction K.length with
    | zero=>rfl
    | succ q ih=>rw[List.range_succ,List.map_append,List.flatMap_append,ih];rfl
   rw[e,key (λj=>[Qn m K i s j]) K.length j (λx _ hx=>?_) hj]
   .rw[pO,uz,Rat.add_zero];exact if_pos ⟨rfl,rfl,rfl⟩
   .rw[pO,uz,Rat.add_zero];exact if_neg λh=>hx h.2.2
  .refine LW λy hy=>if_neg λh=>?_;obtain⟨q,_,rfl⟩:=jH hy;have:x+1=s+1:=h.2.1;omega
 .refine LW λy hy=>if_neg λh=>?_;obtain⟨q,_,hy⟩:=List.mem_flatMap.1 hy;obtain⟨p,_,rfl⟩:=jH hy;exact hx h.1
end
noncomputable def bF6 (a:Au):Au:=⟨a.sym,(bn (ah [a])).length,EP (bn (ah [a])).length,(bn (ah [a])).map (kQ a),qV (ah [a]) (bn (ah [a]))⟩
section
variable {a:Au}
theorem aV8 (h:1<=a.sym):(bF6 a).Ok :=
 ⟨h,Ai,dL ..,λx hx=>by
  obtain⟨i,hi,s,hs,j,hj,rfl⟩:=PK.1 hx;rw[show (ah [a]).k=a.sym from tY] at hs
  exact⟨hi,hj,Nat.succ_le_succ (Nat.zero_le _),hs⟩⟩
