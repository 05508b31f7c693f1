/-
  AL, part 45: a call that takes owned blocks and hands back further ones.
-/
import Derived.Test.YtanlenlmihoiiaaGreatDoorKWkBC
set_option linter.unusedVariables false
set_option linter.unusedSimpArgs false
namespace Go.AL
open Go Go.BigFrame
section
variable {P:Program}{E:Env}
theorem SG.gV {ops:Array Oper}{o:Oper}{K:S->Prop}{s:S}(h:OL P 0 ops K [o] s):SG P E ops o K s:=.inl h
theorem SG.Hu {ops:Array Oper}{dst:Option Nat}{op:Op}{ty:TypeId}{pos:String}{after:Array Edge}{K:S->Prop}{s:S}(h:SO P E ⟨dst,op,ty,pos,after,none⟩ K s):SG P E ops ⟨dst,op,ty,pos,after,none⟩ K s:=.inr ⟨rfl,h⟩
def OTK (P:Program)(E:Env)(ops:Array Oper)(K:S->Prop):Nat->Array Bool->S->Prop
 | 0,listed,s=>Region.ready .any ops listed=[]/\K s
 | n+1,listed,s=>Region.ready .any ops listed≠[]/\∀ i,i ∈ Region.ready .any ops listed->∃ o,ops[i]? = some o/\SG P E ops o (OTK P E ops K n (listed.setIfInBounds i true)) s
def aW2 (P:Program)(E:Env)(ops:Array Oper)(K:S->Prop)(n:Nat)(listed:Array Bool)(s:S):List Nat->List Oper->Prop
 | [],[]=>True
 | i::l,o::os=>SG P E ops o (OTK P E ops K n (listed.setIfInBounds i true)) s/\aW2 P E ops K n listed s l os
 | _,_=>False
theorem aW2.get {ops:Array Oper}{K:S->Prop}{n:Nat}{listed:Array Bool}{s:S}:∀ (l:List Nat) (os:List Oper),l.map (λi=>ops[i]?)=os.map some->aW2 P E ops K n listed s l os->∀ i,i ∈ l->∃ o,ops[i]? = some o/\SG P E ops o (OTK P E ops K n (listed.setIfInBounds i true)) s
 | [],_,_,_,i,hi=>by simp at hi
 | j::l,[],h,_,_,_=>by simp at h
 | j::l,o::os,h,ht,i,hi=>by
  simp only[List.map_cons,List.cons.injEq] at h;rcases List.mem_cons.1 hi with rfl|hi
  .exact⟨o,h.1,ht.1⟩
  .exact aW2.get l os h.2 ht.2 i hi
end
end Go.AL
namespace Go.Proofs.YtanlenlmihoiiaaGreatDoor
open Go Go.AL
theorem bh3:((-1:Int):Rat) / ((1:Int):Rat) = -1:=by decide +kernel
theorem Kt {m:lZ}:1<=(dZ m 2 3).st/\(dZ m 2 3).st<=3:=NM (m:=m) (most:=3) (by decide)
theorem aH7 {m:lZ}:Au.Wt (dZ m 2 3):=⟨lN.fit.ok,zV,(show 2<=32 by decide),lN.fit.st⟩
theorem aW3 {m:lZ}:(dZ m 2 3).Fw :=
 ⟨lN.fit.ok,lN.few,(show 2<=4 by decide),Kt.1,λx hx=>Nat.le_trans (zV.arc x hx) (by decide),Nat.le_trans zV.num (by decide)⟩
theorem Vh {m:lZ}:Au.Rk (dZ m 2 3) 2 :=
 ⟨lN,aH7,by decide,zV.rev.up (by decide) (by decide),aW3,aT1 lN.fit.ok zV (show 2<=4 by decide) Kt.1 (Nat.le_trans Kt.2 (by decide)),be8 lN.fit.ok zV (show 2<=4 by decide) Kt.1 (Nat.le_trans Kt.2 (by decide))⟩
end Go.Proofs.YtanlenlmihoiiaaGreatDoor
namespace Go.AL
open Go Go.BigFrame
def vZ:Au:=⟨1,2,[1,0],[0,1],[⟨0,1,0,1⟩,⟨0,1,1,1⟩,⟨1,1,1,1⟩]⟩
theorem bt2:vZ.Ok:=⟨by decide,rfl,rfl,λx hx=>by
 simp only[vZ,List.mem_cons,List.not_mem_nil,or_false] at hx;rcases hx with rfl|rfl|rfl <;> exact⟨by decide,by decide,by decide,by decide⟩⟩
theorem a03:vZ.Sz 1 10:=by
 have z1:sz 1<=1:=by rw[FO];decide
 have z0:sz 0<=1:=by rw[fH];decide
 refine⟨λq hq=>?_,λq hq=>?_,λx hx=>?_,by decide⟩
 .simp only[vZ,List.mem_cons,List.not_mem_nil,or_false] at hq;rcases hq with rfl|rfl
  .exact z1
  .exact z0
 .simp only[vZ,List.mem_cons,List.not_mem_nil,or_false] at hq;rcases hq with rfl|rfl
  .exact z0
  .exact z1
 .simp only[vZ,List.mem_cons,List.not_mem_nil,or_false] at hx;rcases hx with rfl|rfl|rfl <;> exact z1
theorem bt3 {m:bV}{B:Nat}(ok:m.Ok)(hk:m.k=1)(h1:1<=B)(g:List Int->y7->Bool × y7)(e:∀ w,iV 1 w->∀ y,oJ m w y=g w y)(hz:∀ w,iV 1 w->w.length<=2->∀ i,sz ((bF m w).getD i 0)<=B)
  (g1:(g [] ⟨[],[]⟩).1=true) (g2:(g [1] (g [] ⟨[],[]⟩).2).1=true) (g3:(g [1,1] (g [1] (g [] ⟨[],[]⟩).2).2).1=false):gu m B [] (g [1,1] (g [1] (g [] ⟨[],[]⟩).2).2).2:=by
 have w0:iV 1 []:=λx hx=>by cases hx
 have w1:iV 1 [1]:=λx hx=>by rw[jJ hx];decide
 have w2:iV 1 [1,1]:=λx hx=>by
  simp only[List.mem_cons,List.not_mem_nil,or_false] at hx;rcases hx with rfl|rfl <;> decide
 have s1:=((gu.start m B).next ok h1 (hz [] w0 (by decide))).1 (by rw[e _ w0];exact g1)
 rw[e _ w0,hk,show ([]:List (List Int))++cu 1 []=[[1]] from by decide] at s1
 have s2:=(s1.1.next ok h1 (hz [1] w1 (by decide))).1 (by rw[e _ w1];exact g2)
 rw[e _ w1,hk,show ([]:List (List Int))++cu 1 [1]=[[1,1]] from by decide] at s2
 have s3:=(s2.1.next ok h1 (hz [1,1] w2 (by decide))).2 (by rw[e _ w2];exact g3)
 rw[e _ w2] at s3;exact s3.1
def CZ (f:List Int->List Rat)(w:List Int)(y:y7):Bool × y7:=if bM y.rs (f w)=true then (true,⟨y.ks++[w],y.rs++[newR y.rs (f w)]⟩) else (false,y)
theorem aH8:(ah [vZ]).k=1:=xE
theorem bE9 {e:Nat}(z:(ah [vZ]).Sz e)(ok:(ah [vZ]).Ok):∃ y,gu (aA (ah [vZ])) 16777215 [] y/\y.ks=[[],[1]] :=
 ⟨_,bt3 (iH ok) (kX.trans aH8) (by decide) (oJ (aA (ah [vZ]))) (λ_ _ _=>rfl) (λw _ hw i=>Nat.le_trans (jY z.turn (Nat.le_trans hw (by decide)) i) (by decide)) (by decide +kernel) (by decide +kernel) (by decide +kernel),by decide +kernel⟩
theorem bt4 {e:Nat}(z:(ah [vZ]).Sz e)(ok:(ah [vZ]).Ok):jU (aA (ah [vZ]))=[[],[1]]/\aV (ah [vZ])=[[],[1]]/\rkA vZ=2:=by
 obtain⟨y,hy,hk⟩:=bE9 z ok;have hb:jU (aA (ah [vZ]))=[[],[1]]:=by rw[<- hy.bas,hk]
 obtain⟨mv,v⟩:=CX ok hy;have hL:∀ l,l ∈ jU (aA (ah [vZ]))->l.length<=3:=λl hl=>by
  rw[hb] at hl;simp only[List.mem_cons,List.not_mem_nil,or_false] at hl;rcases hl with rfl|rfl <;> decide
 have r:gu mv 16777215 [] (CZ (aZ (ah [vZ]) [[],[1]]) [1,1] (CZ (aZ (ah [vZ]) [[],[1]]) [1] (CZ (aZ (ah [vZ]) [[],[1]]) [] ⟨[],[]⟩).2).2).2 :=
  bt3 v.ok (v.k.trans aH8) (by decide) (CZ (aZ (ah [vZ]) [[],[1]])) (λw hw y=>by unfold oJ CZ;rw[v.vec w (by rw[aH8];exact hw),hb])
   (λw hw h2 i=>by rw[v.vec w (by rw[aH8];exact hw)];exact Nat.le_trans (Kr z (Nat.le_succ_of_le h2) hL i) (by decide)) (by decide +kernel) (by decide +kernel) (by decide +kernel)
 have hp:=CY (hy.first ok v r)
 have hr:=hy.rank ok v r;refine⟨hb,by rw[hp];decide +kernel,?_⟩
 rw[aH8] at hr;exact hr.symm.trans (by decide +kernel)
theorem aW4 {e:Nat}(z:(ah [vZ]).Sz e)(ok:(ah [vZ]).Ok):dK (dK (vG (ah [vZ]) (aV (ah [vZ]))))=[⟨0,1,1,1⟩,⟨1,1,0,-1⟩,⟨1,1,1,2⟩]:=by
 obtain⟨h1,h2,_⟩:=bt4 z ok;unfold vG ao2 XC Qu ul;rw[h1,h2];have h:∀ {a b:List bU},a.length=b.length->(a.map λx=>(x.f,x.l,x.t,x.q))=(b.map λx=>(x.f,x.l,x.t,x.q))->a=b:=by
  intro a
  induction a with
  | nil=>intro b hl _;cases b with
   | nil=>rfl
   | cons=>cases hl
  | cons x a ih => intro b hl he; cases b with
   | nil=>cases hl
   | cons y b =>
    rw[List.map_cons,List.map_cons] at he;obtain⟨e1,e2⟩:=List.cons.inj he;rw[ih (Nat.succ.inj hl) e2];cases x;cases y
    simp only[Prod.mk.injEq] at e1;obtain⟨rfl,rfl,rfl,rfl⟩:=e1;rfl
 exact h (by decide +kernel) (by decide +kernel)
section
variable {k n B l i:Nat}{f:List Int->List Rat}{Lv kept K:List (List Int)}{rs:List bZ}{m:bV}{e:Nat}
theorem ao5 (h:Gq k n B f l Lv i kept K rs)(hi:i<Lv.length):(Lv.getD i []).length<=n:=by
 have hm:Lv.getD i [] ∈ Lv:=getD_mem hi [];have h1:=h.s.sp.le;have h2:=h.s.len;cases hc:Lv.getD i [] with
 | nil=>exact Nat.zero_le _
 | cons s u =>
  have h3:=h.lv.tail _ hm s u hc;have h4:=pY h.s.ord (λu hu hne=>by
   cases u with
   | nil=>exact absurd rfl hne
   | cons s u=>exact⟨u,h.s.tail s u hu,rfl⟩) u h3
  rw[List.length_cons];omega
theorem Qy (h1:1<=B)(hfl:∀ w,(f w).length=n)(hz:∀ w,iV k w->w.length<=n->∀ j,sz ((f w).getD j 0)<=B):∀ (d i:Nat) (kept K:List (List Int)) (rs:List bZ),i+d=Lv.length->Gq k n B f l Lv i kept K rs ->
  ∃ kept' K' rs',Gq k n B f l Lv Lv.length kept' K' rs' /\ K'.length+kept.length=K.length+kept'.length
 | 0,i,kept,K,rs,hd,h=>⟨kept,K,rs,by rw[<- hd];exact h,rfl⟩
 | d + 1, i, kept, K, rs, hd, h => by
  have hi:i<Lv.length:=by omega
  have hc:=hz _ (h.lv.vF _ (getD_mem hi [])) (ao5 h hi);by_cases hg:bM rs (f (Lv.getD i []))=true
  .obtain⟨k2,K2,r2,s,e⟩:=Qy h1 hfl hz d (i+1) _ _ _ (by omega) (h.yes hi (hfl _) h1 hc hg)
   refine⟨k2,K2,r2,s,?_⟩;rw[jd,jd] at e;simp only[iY] at e;omega
  .exact Qy h1 hfl hz d (i+1) _ _ _ (by omega) (h.no hi (hfl _) (by simpa using hg))
theorem TS (h1:1<=B)(hfl:∀ w,(f w).length=n)(hz:∀ w,iV k w->w.length<=n->∀ j,sz ((f w).getD j 0)<=B)(hf:Qr k n f):∀ (N l:Nat) (Lv K:List (List Int)) (rs:List bZ),n-K.length<=N->Ff k n B f l Lv K rs->∃ l' K' rs',Ff k n B f l' [] K' rs'
 | N, l, Lv, K, rs, hN, h => by
  obtain⟨k2,K2,r2,s,e⟩:=Qy h1 hfl hz Lv.length 0 [] K rs (by omega) h.begin
  have hd:=s.done hf;cases hk:k2 with
  | nil =>
   rw[hk,show gW k []=[] by unfold gW;simp] at hd
   exact⟨_,_,_,hd⟩
  | cons x t =>
   have h2:=s.s.sp.le;have h3:=s.s.len;rw[hk] at e;simp only[List.length_nil,List.length_cons] at e
   match N,hN with
   | 0,hN=>omega
   | N+1,hN=>exact TS h1 hfl hz hf N _ _ _ _ (by omega) hd
theorem Ku {L:List (List Int)}{u:List Int}(z:m.Sz e)(hu:u.length<=6)(hL:∀ l,l ∈ L->l.length<=6)(i:Nat):sz ((aZ m L u).getD i 0)<=69177619:=by
 rcases Nat.lt_or_ge i L.length with hi|hi
 .rw[xg hi];have h:=KY (n:=m.n) z.n6 (u:=vf (bF m u)) (v:=vf (bF (aA m) (L.getD i []))) (λi=>jY z hu i) (λi=>jY z.turn (hL _ (getD_mem hi [])) i);exact Nat.le_trans h (by omega)
 .rw[vS (by rw[fU];exact hi),fH];decide
theorem LG (ok:m.Ok)(z:m.Sz e):∃ y,gu m 69177619 [] y/\y.ks=jU m:=NR ok z.n6 (by decide) λ_ _ h6 i=>Nat.le_trans (jY z h6 i) (by decide)
theorem Ap (ok:m.Ok)(z:m.Sz e):∀ l,l ∈ jU m->l.length<m.n:=λl hl=>by
 obtain⟨y,hy,e⟩:=LG ok z;have h1:=hy.short l (by rw[e];exact hl)
 have h2:=hy.b.few.2;omega
theorem bh4 (ok:m.Ok)(z:m.Sz e)(hk:1<=m.k):Ns m (FB m):=by
 have ok2:=iH (iH ok);obtain⟨y,hy,hb⟩:=LG ok2 z.turn.turn;have hf:=Ee ok hy;have hs:=Ap ok2 z.turn.turn;have hn:(jU (aA (aA m))).length<=m.n:=by rw[<- hb];exact hy.b.few.2
 have hm6:=z.n6;obtain⟨l',K',rs',s⟩:=TS (k:=m.k) (B:=69177619) (f:=oL m) (by decide) (λw=>fU)
  (λw hw hl j=>Ku z.turn (by rw[List.length_reverse];omega) (λl hl=>by have h1:l.length<m.n:=hs l hl;omega) j) hf _ 0 [[]] [] [] (Nat.le_refl _) Ff.start
 have h:=Ff.fin ok hk hy s;rw[NV h];exact h
structure bt5 (m:bV) (K:List (List Int)):Prop where
 first:l7 m.k (λu l=>yH m (u++l)) K
 init:∀ u,u ∈ K->u≠[]->u.dropLast ∈ K
 rank:K.length=Ih m.k (yH m)
 short:∀ u,u ∈ K->u.length<K.length
theorem Vj (ok:m.Ok)(z:m.Sz e):bt5 m (aV m)/\(aV m).length<=m.n:=by
 obtain⟨y,hy,hb⟩:=LG (iH ok) z.turn;obtain⟨mv,v⟩:=CX ok hy;have hs:=Ap (iH ok) z.turn;have hm6:=z.n6;have hn:(jU (aA m)).length<=m.n:=by rw[<- hb];exact hy.b.few.2
 obtain⟨x,hx,_⟩:=NR (m:=mv) (B:=69177619) v.ok (by rw[v.n];omega) (by decide) λw hw h6 i=>by
  rw[v.vec w (by rw[<- v.k];exact hw)]
  exact Ku z h6 (λl hl=>by have h1:l.length<m.n:=hs l hl;omega) i
 have hf:=hy.first ok v hx
 rw[CY hf];have h2:=hx.b.few.2;rw[v.n] at h2;exact⟨⟨hf,λu hu hne=>hx.closed hu hne,hy.rank ok v hx,hx.short⟩,Nat.le_trans h2 hn⟩
theorem l7.lt {h:List Int->List Int->Rat}(f:l7 k h K){j:Nat}(hj:j<K.length)(h0:0<j):mG (K.getD (j-1) []) (K.getD j [])<0:=by
 have h1:=List.pairwise_iff_getElem.1 f.ord (j-1) j (by omega) hj (by omega)
 rw[jh,jh,lQ (by omega),lQ hj]
 exact h1
end
end Go.AL
namespace Go.Proofs.YtanlenlmihoiiaaGreatDoor
open Go Go.AL
theorem lt3 {m:Nat}{ops:Array Oper}{K:S->Prop}{s:S}{dst:Option Nat}{ty:Nat}{pos:String}{after:Array Edge}{r:List Oper}{t e sz eH:Nat}{x x2 x3:Operand}{y y2 y3:D}(hT:bJ P t e sz eH)(hx:VD (s.ev x) y)(hx2:VD (s.ev x2) y2)(hx3:VD (s.ev x3) y3)(hs:y.cells.length=sz/\y2.cells.length=sz/\y3.cells.length=sz)(X3:sz<=4194304)(h:OL P m ops K r (s.put dst (.d (.sl [y,y2,y3])))):OL P m ops K (⟨dst,.buildSlice t 3 #[(0,x),(1,x2),(2,x3)],ty,pos,after,none⟩:: r) s:=OL.Ou (.Yb (xs:=[y,y2,y3]) hT rfl rfl (by omega) (by omega) (λi p z hp hz=>by
 match i,hp,hz with
 | 0,hp,hz=>simp at hp hz;subst hp hz;exact hx
 | 1,hp,hz=>simp at hp hz;subst hp hz;exact hx2
 | 2,hp,hz=>simp at hp hz;subst hp hz;exact hx3
 | i+3,hp,hz=>simp at hp) (λz hz=>by simp at hz;rcases hz with rfl|rfl|rfl;exact hs.1;exact hs.2.1;exact hs.2.2)) h
theorem aH9:VD (.ag [.d (dB false),.mt,.mt,.d (dI 0),.d (dB false),.d (dU 0),.mt,.mt]) (dW 0):=by
 have e:dW 0=.ag [dB false,.sl [],.sl [],dI 0,dB false,dU 0,.sl [],.sl []]:=by unfold dW;rw[rO];rfl
 rw[e];exact VD.ag (.cons (VC.d _) (.cons VC.mt (.cons VC.mt (.cons (VC.d _) (.cons (VC.d _) (.cons (VC.d _) (.cons VC.mt (.cons VC.mt .nil))))))))
theorem ag2:Au.Take vZ 1:=⟨⟨bt2,a03.wide,rfl,(show 1<=32 by decide),(show 2<=64 by decide)⟩,a03.few (show 2<=6 by decide),(show 1<=2 by decide)⟩
theorem ao6:ai P F.mW [yV vZ] (.mM [yV ⟨1,2,[1,0],[xA vZ [],xA vZ [1]],[⟨0,1,1,1⟩,⟨1,1,0,-1⟩,⟨1,1,1,2⟩]⟩,.d (dI 0)]):=by
 obtain⟨ok,_,z6,_⟩:=JD ag2 (by decide)
 obtain⟨_,h2,h3⟩:=bt4 z6 ok;have h:=XH ag2 (by decide) (by decide) (by decide) (by rw[h3];decide)
 rw[aW4 z6 ok,h2] at h;exact h
theorem bh5:sz (-1)<=68719476736:=by rw[OC,FO];decide
theorem bt6:sz 2<=68719476736:=by
 have h:=AX 1 1;rw[FO,show (1:Rat)+1=2 by decide +kernel] at h
 exact Nat.le_trans h (by decide)
theorem bt7:((2:Int):Rat) / ((1:Int):Rat)=2:=by decide +kernel
theorem aI0:((1:Int):Rat) / ((1:Int):Rat)=1:=by decide +kernel
theorem a04 {p:Rat}(hp:sz p<=68719476736):ai P F.AZ [vQ p,vQ p] (.d (dB true)):=by
 have h:=Ll (p:=p) (q:=p) hp hp
 rwa [decide_eq_true rfl] at h
theorem bt8 (m:lZ):(dZ m 2 3).st<=3:=Kt.2
structure Wds (m:lZ):Prop where
 pk:bt5 (ah [dZ m 2 3]) (aV (ah [dZ m 2 3]))
 sk:Ns (ah [dZ m 2 3]) (FB (ah [dZ m 2 3]))
 pl:(aV (ah [dZ m 2 3])).length=rkA (dZ m 2 3)
 sl:(FB (ah [dZ m 2 3])).length=rkA (dZ m 2 3)
 r3:rkA (dZ m 2 3)<=3
theorem wds (m:lZ):Wds m:=by
 obtain⟨ok,_,z6,hn⟩:=JD (lN (m:=m)) (by decide)
 obtain⟨pk,pn⟩:=Vj ok z6;have sk:=bh4 ok z6 (by rw[xE];exact (show 1<=2 by decide))
 have pl:(aV (ah [dZ m 2 3])).length=rkA (dZ m 2 3):=by rw[pk.rank,xE];rfl
 have sl:(FB (ah [dZ m 2 3])).length=rkA (dZ m 2 3):=by rw[sk.rank,xE];rfl
 have:=bt8 m;exact⟨pk,sk,pl,sl,by omega⟩
theorem vk  : ai P F.vk [] (kS):=by
 refine ai.intro fn.vk (by rfl) (by rfl) (ay (by rfl)) λE hE=>(AW.sg hE rfl (al z.Ring rfl λb0=>(OL.nil (AW.sg hE rfl (bd z.Ring pl.Ring (cs:=[_,_]) rfl (fA sz.Ring rfl rfl rfl rfl rfl (ay rfl) (cells2:=[_,_]) rfl (OL.nil ?_)))))))
 exact AW.ret (aP.r ⟨_,.dN rfl rfl ag.Ring (ay rfl) .nil,.ag (.cons (.le vR) (.cons (.le (bW.mt)) .nil))⟩)
theorem vJ {m:lZ}{e:Bool}(n1:m.ini.length<=9223372036854775807)(n2:m.fin.length<=9223372036854775807)(n3:m.aN.length<=9223372036854775807):ai P F.vJ [U7 m e] (yV (dZ m 2 3)):=by
 refine ai.intro fn.vJ (by rfl) (by rfl) (ay (by rfl)) λE hE=>(AW.sg hE rfl (iO rfl rfl λb1=>(al z.Auto rfl λb2=>(OL.nil (AW.sg hE rfl (bC fd.ab2 rfl rfl (fA sz.bool rfl rfl rfl rfl rfl (ay rfl) (cells2:=[_,_,_,_,_]) rfl ?_)))))))
 refine OL.nil (AW.seq (AW.dg 1 [0,1,2,3] ak hE rfl (by kernel_rfl) (OI.aK (os:=[_,_,_,_]) rfl ?_)))
 exact aQ ag.Model rfl rfl (vs:=[_,_,_,_,_]) rfl (ay rfl) (bH rfl (.nil) (vk) (bH rfl vL (bs0 (m:=m) (sym:=2) (most:=3) (by decide) (by decide) n1 n2 n3) (fA sz.Auto rfl rfl rfl rfl rfl (ay rfl) (cells2:=[_,_,_,_,_,_,_]) rfl (OL.nil (AW.ret (aP.r ⟨_,.dN rfl rfl ag.Auto (ay rfl) .nil,.ag (.cons (.le vR) (.cons (.le vR) (.cons (.le vR) (.cons (.le vR) (.cons (.le vR) (.cons (.le vR) (.cons (.le vR) .nil)))))))⟩))))))
theorem Ef  : ai P F.NE [.d (dI 1),.d (dI 1)] (vW 1):=by
 refine ai.intro fn.NE (by rfl) (by rfl) (ay (by rfl)) λE hE=>(AW.sg hE rfl (al z.aC rfl λb4=>(OL.nil (AW.sg hE rfl (aj rfl (aj rfl (bH rfl vL (CW (n:=1) (d:=1) (by decide) (by decide) (by decide)) ?_)))))))
 rw[aI0];exact bd z.aC pl.aC (cs:=[_,_,_,_,_,_,_,_]) rfl (fA sz.aC rfl rfl rfl rfl rfl (ay rfl) (cells2:=[_,_,_,_,_,_,_,_]) rfl (OL.nil (AW.ret (aP.r ⟨_,.dN rfl rfl ag.aC (ay rfl) .nil,.le IC⟩))))
set_option maxRecDepth 8000 in
set_option maxHeartbeats 1600000 in
theorem vK  : ai P F.vK [] (.d (dB true)):=by
 refine ai.intro fn.vK (by rfl) (by rfl) (ay (by rfl)) λE hE=>(AW.sg hE rfl (aF rfl (OL.nil (AW.sg hE rfl (bH rfl (.nil) (vk) (bH rfl vL (Ef) (bd z.aC pl.aC (cs:=[_,_,_,_,_,_,_,_]) rfl ?_)))))))
 refine lt2 (y:=dW 1) (y2:=dW 0) sl.aW Nr aH9 ⟨rfl,rfl⟩ (by decide) (bd z.aC pl.aC (cs:=[_,_,_,_,_,_,_,_]) rfl (bH rfl vL (Ef) (lt2 (y:=dW 0) (y2:=dW 1) sl.aW aH9 Nr ⟨rfl,rfl⟩ (by decide) (bH rfl vL (Ef) (L6 (cs:=[_,_,_,_,_,_,_,_,_,_,_]) z.mX pl.mX (lI (by exact uG rfl) (lI (by exact uG rfl) (lI (by exact uG rfl) (lI (by exact X5 rfl) (LZ))))) (by rfl) (bH rfl vL (Ef) ?_))))))
 refine L6 (cs:=[_,_,_,_,_,_,_,_,_,_,_]) z.mX pl.mX (lI (by exact uG rfl) (lI (by exact uG rfl) (lI (by exact uG rfl) (lI (by exact X5 rfl) (LZ))))) (by rfl) (bH rfl vL (Ef) (L6 (cs:=[_,_,_,_,_,_,_,_,_,_,_]) z.mX pl.mX (lI (by exact uG rfl) (lI (by exact uG rfl) (lI (by exact uG rfl) (lI (by exact X5 rfl) (LZ))))) (by rfl) (lt3 (y:=jG ⟨0,1,0,1⟩) (y2:=jG ⟨0,1,1,1⟩) (y3:=jG ⟨1,1,1,1⟩) sl.dm (xQ (x:=⟨0,1,0,1⟩)) (xQ (x:=⟨0,1,1,1⟩)) (xQ (x:=⟨1,1,1,1⟩)) ⟨rfl,rfl,rfl⟩ (by decide) ?_)))
 refine L6 (cs:=[_,_,_,_,_,_,_]) z.Auto pl.Auto (lI (by exact X5 rfl) (lI (by exact uG rfl) (lI (by exact uG rfl) (lI (by exact uG rfl) (lI (by exact uG rfl) (lI (by exact uG rfl) (LZ))))))) (by rfl) (al z.Auto rfl λb1=>(fA sz.Auto rfl rfl rfl rfl rfl (ay rfl) (cells2:=[_,_,_,_,_,_,_]) rfl (OL.nil (AW.sg hE rfl (aQ ag.Auto rfl rfl (vs:=[_,_,_,_,_,_,_]) rfl (ay rfl) (bH rfl vL (ao6) (Di rfl ?_)))))))
 refine ex rfl rfl (ex rfl rfl (al z.Auto rfl λb2=>(fA sz.Auto rfl rfl rfl rfl rfl (ay rfl) (cells2:=[_,_,_,_,_,_,_]) rfl (aF rfl (OL.nil (AW.seq (AW.dg 1 [0,1,2,3,4,5,6,7,8,9,10,11,12,13,14,15,16,17,18,19,20,21,22,23,24,25,26,27,28,29,30,31,32,33] ak hE rfl (by kernel_rfl) (OI.aK (os:=[_,_,_,_,_,_,_,_,_,_,_,_,_,_,_,_,_,_,_,_,_,_,_,_,_,_,_,_,_,_,_,_,_,_]) rfl ?_))))))))
 refine aj rfl (fG rfl rfl (c:=true) (decide_eq_true rfl) (aj rfl (OL.yes rfl (bC fd.oz rfl rfl (OL.yes rfl (aG ce.int rfl rfl rfl (OL.yes rfl ?_)))))));refine fG rfl rfl (c:=true) (decide_eq_true rfl) (oK rfl rfl (aj rfl (OL.yes rfl (bC fd.gK rfl rfl (OL.yes rfl (aG ce.dm rfl rfl rfl (OL.yes rfl ?_)))))));refine fF sl.dm rfl rfl (OL.yes rfl (fG rfl rfl (c:=true) (decide_eq_true rfl) (oK rfl rfl (aj rfl (OL.yes rfl (bC fd.gK rfl rfl (OL.yes rfl ?_)))))));refine aG ce.dm rfl rfl rfl (OL.yes rfl (dR (i:=1) sl.dm default rfl rfl (by decide) rfl rfl (OL.yes rfl (Ov fd.rC rfl rfl (OL.yes rfl (Ov fd.iC rfl rfl (OL.yes rfl ?_)))))))
 refine iD ag.Rat rfl (vs:=[_,_,_]) rfl (ay rfl) (OL.yes rfl (bH rfl vL (CW (n:=-1) (d:=1) (by decide) (by decide) (by decide)) ?_))
 rw[bh3];refine OL.yes rfl (bH rfl vL (a04 (p:=-1) bh5) (oK rfl rfl (aj rfl (OL.yes rfl (bC fd.gK rfl rfl (OL.yes rfl (aG ce.dm rfl rfl rfl ?_)))))));refine OL.yes rfl (dR (i:=2) sl.dm default rfl rfl (by decide) rfl rfl (OL.yes rfl (Ov fd.rC rfl rfl (OL.yes rfl (Ov fd.iC rfl rfl (OL.yes rfl (iD ag.Rat rfl (vs:=[_,_,_]) rfl (ay rfl) ?_)))))))
 refine OL.yes rfl (bH rfl vL (CW (n:=2) (d:=1) (by decide) (by decide) (by decide)) ?_)
 rw[bt7];exact OL.yes rfl (bH rfl vL (a04 (p:=2) bt6) (oK rfl rfl (aF rfl (OL.nil (AW.ret (aP.r ⟨_,.tmp rfl .nil,.le vR⟩))))))
end Go.Proofs.YtanlenlmihoiiaaGreatDoor
namespace Go.AL
open Go Go.BigFrame
def Mem.TT (M Mc N:Mem):Mem:=λid=>if (N id).isSome then N id else if (Mc id).isSome then Option.none else M id
section
variable {P:Program}{E:Env}{K:S->Prop}{s:S}{ty:Nat}{pos:String}{after:Array Edge}
theorem After.TT {F F' : Hp} {w w' : World} {M Mc N : Mem} (h : xw F M w) (hc : ∀ id blk, Mc id = some blk -> M id = some blk) (ha : After F Mc w F' N w') : After F M w F' (M.TT Mc N) w' := by
  have sub:∀ k,jV Mc k->jV M k:=λk ⟨id,blk,hm,ho⟩=>⟨id,blk,hc id blk hm,ho⟩;have part:∀ id blk,(M.TT Mc N) id=some blk->N id=some blk \/ (Mc id=Option.none/\M id=some blk):=λid blk hm=>by
    unfold Mem.TT at hm;cases hq:N id with
    | some b=>simp[hq] at hm;exact .inl (by rw[<- hm])
    | none =>
      simp only[hq,Option.isSome_none,Bool.false_eq_true,if_false] at hm;cases hp:Mc id with
      | some b=>simp[hp] at hm
      | none=>simp[hp] at hm;exact .inr ⟨rfl,hm⟩
  have far:∀ id blk k,Mc id=Option.none->M id=some blk->blk.owns k->k<w.heap.size/\¬ jV Mc k:=λid blk k hn hm ho =>
    ⟨(h.own id blk hm).lt ho, λ⟨id', jO, hm', ho'⟩ => by
      have:=h.inj id id' _ _ k hm (hc id' jO hm') ho ho';subst this;rw[hn] at hm';cases hm'⟩
  refine⟨ha.grow.mono sub,ha.le,⟨ha.gX.sF,λid blk hm=>?_,λid blk k hm ho=>?_,λi j bi bj k hi hj hoi hoj=>?_⟩,λk p q=>(ha.new k p q).imp (λz=>z) (sub k),λk ⟨id,blk,hm,ho⟩=>?_⟩
  · rcases part id blk hm with hm | ⟨hn, hm⟩
    · exact ha.gX.own id blk hm
    · exact (h.own id blk hm).keep ha.le λk ho=>let ⟨h1,h2⟩:=far id blk k hn hm ho;ha.grow.block k h1 h2
  · rcases part id blk hm with hm | ⟨hn, hm⟩
    · exact ha.gX.apart id blk k hm ho
    · obtain⟨h1, h2⟩:=far id blk k hn hm ho
      cases hf:F' k with
      | none=>rfl
      | some o =>
        rcases ha.new k (h.apart id blk k hm ho) (by rw[hf];simp) with h3|h3
        · omega
        · exact absurd h3 h2
  · rcases part i bi hi with hi | ⟨ni, hi⟩ <;> rcases part j bj hj with hj | ⟨nj, hj⟩
    · exact ha.gX.inj i j bi bj k hi hj hoi hoj
    · obtain⟨h1, h2⟩:=far j bj k nj hj hoj
      rcases ha.jZ k ⟨i,bi,hi,hoi⟩ with h3|h3
      · omega
      · exact absurd h3 h2
    · obtain⟨h1, h2⟩:=far i bi k ni hi hoi
      rcases ha.jZ k ⟨j,bj,hj,hoj⟩ with h3|h3
      · omega
      · exact absurd h3 h2
    · exact h.inj i j bi bj k hi hj hoi hoj
  · rcases part id blk hm with hm | ⟨hn, hm⟩
    · exact (ha.jZ k ⟨id,blk,hm,ho⟩).imp (λz=>z) (sub k)
    · exact .inr ⟨id,blk,hm,ho⟩
theorem SO.bh6 {α:Type}{f:Operand}{args:Array Operand}{ats:Array TypeId}{mO:Nat}{caps args':List V}{Mc:Mem}{Mk:α->Mem}{res:α->V}{φ:α->Prop}{dst:Option Nat}{g:Option (Nat × Bool)}(hd:oV E.n dst)
  (hf:s.ev f=.fn mO caps) (ha:fK (args.toList.map s.ev++caps) args') (hc:∀ id blk,Mc id=some blk->s.M id=some blk) (hs:jA P mO args' Mc res Mk φ)
  (h:∀ x,φ x->K ((⟨s.ρ,s.M.TT Mc (Mk x)⟩:S).put dst (res x))):SO P E ⟨dst,.call { callee:=.value f,args:=args,argTypes:=ats },ty,pos,after,g⟩ K s:=λF a w hr=>by
 have hf':=hr.eval f;rw[hf] at hf';generalize Ya:a.eval f=af at hf';cases hf' with
 | @fn _ us _ hl hrr =>
  have hvs:lG F (args.toList.map a.eval++us) args':=qH (vH (mQ hr.eval _) ⟨hl,hrr⟩) ha;have hcc:=hs.2 F w _ (Ei hr.gX hc) hvs;unfold execOp;have e1:(args.map a.eval++us.toArray)=(args.toList.map a.eval++us).toArray:=by simp
  simp only[resolve,Ya,Deferred.ofValue,Sem.run_bind,Sem.run_pure,Result.andThen_ok,invoke,Array.empty_append,e1,lH hs.1];refine hcc.mono λe2 w' ⟨x,hφ,v,F',he,hA,hv⟩=>⟨v,he,F',_,hr.mV (After.TT hr.gX hc hA) hd hv,h x hφ⟩
