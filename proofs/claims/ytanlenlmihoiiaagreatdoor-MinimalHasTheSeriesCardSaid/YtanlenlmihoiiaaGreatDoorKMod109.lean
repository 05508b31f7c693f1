/-
  M, chapter 24: when two minimal realisations are the same; a further state that has no effect.
-/
import Derived.Test.YtanlenlmihoiiaaGreatDoorKWkAE
set_option linter.unusedVariables false
set_option linter.unusedSimpArgs false
namespace Go.Proofs.YtanlenlmihoiiaaGreatDoor
open Go Go.AL
theorem Hu {m:gB}:1<=(dS m 2 3).st/\(dS m 2 3).st<=3:=Jv (m:=m) (most:=3) (by decide)
theorem PN {m:gB}:Au.Wt (dS m 2 3):=⟨kW.fit.ok,xZ.up (by decide) (by decide),(show 2<=32 by decide),kW.fit.st⟩
theorem aW5 {m:gB}:(dS m 2 3).Fw :=
 ⟨kW.fit.ok,kW.few,(show 2<=4 by decide),Hu.1,λx hx=>Nat.le_trans (xZ.arc x hx) (by decide),Nat.le_trans xZ.num (by decide)⟩
theorem aW6 {m:gB}:Au.Rk (dS m 2 3) 2 :=
 ⟨kW,PN,by decide,xZ.rev.up (by decide) (by decide),aW5,aS7 kW.fit.ok xZ (show 2<=4 by decide) Hu.1 (Nat.le_trans Hu.2 (by decide)),be7 kW.fit.ok xZ (show 2<=4 by decide) Hu.1 (Nat.le_trans Hu.2 (by decide))⟩
theorem aH0 {a b:Au}{s:Nat}(t:Au.Take a s)(w:Au.Wt a)(t2:Au.Take b s)(w2:Au.Wt b)(u:Au.Fit (oq b (-1)) s)(fd:(BB a b).Fw):ai P F.Az [uY a,uY b] (.oM [.d (dB (eqA a b).isNone),.d (ints ((eqA a b).getD [])),.d (dI 0)]):=by
 refine ai.intro fn.Az (by rfl) (by rfl) (au (by rfl)) λE hE=>(AW.sg hE rfl (iG rfl rfl λb2=>(iG rfl rfl λb3=>(aG rfl (nI rfl (aG rfl (OL.nil ?_)))))))
 refine AW.seq (AW.sg hE rfl (aQ ag.Auto rfl rfl (vs:=[_,_,_,_,_,_,_]) rfl (au rfl) (aQ ag.Auto rfl rfl (vs:=[_,_,_,_,_,_,_]) rfl (au rfl) (bP rfl vL (aF8 t.fit w t2.fit w2) (aG rfl (OL.nil (AW.sg hE rfl ?_)))))));refine aj rfl (fJ rfl rfl (c:=false) (by exact o6 (by omega)) (OL.nil (pW rfl ?_)))
 refine AW.skip (AW.sg hE rfl (aQ ag.Auto rfl rfl (vs:=[_,_,_,_,_,_,_]) rfl (au rfl) (aQ ag.Auto rfl rfl (vs:=[_,_,_,_,_,_,_]) rfl (au rfl) (bP rfl vL (Qp t.fit t2.fit u) (bP rfl vL (aV4 fd) ?_)))));rw[Yy t.fit.ok t2.fit.ok (t.fit.sym.trans t2.fit.sym.symm)];refine ES rfl (ex rfl rfl (ex rfl rfl (aG rfl (aG rfl (OL.nil (AW.sg hE rfl (aj rfl ?_)))))));exact aj rfl (aG rfl (aG rfl (aG rfl (OL.nil (AW.ret (aT.r ⟨_,.tmp rfl (.tmp rfl (.tmp rfl .nil)),_,.cons (.le vR) (.cons (.le vR) (.cons (.le vR) .nil)),rfl⟩))))))
end Go.Proofs.YtanlenlmihoiiaaGreatDoor
namespace Go.AL
open Go Go.BigFrame
def vP:Au:=⟨1,2,[1,0],[0,1],[⟨0,1,0,1⟩,⟨0,1,1,1⟩,⟨1,1,1,1⟩]⟩
theorem bu4:vP.Ok:=⟨by decide,rfl,rfl,λx hx=>by
 simp only[vP,List.mem_cons,List.not_mem_nil,or_false] at hx;rcases hx with rfl|rfl|rfl <;> exact⟨by decide,by decide,by decide,by decide⟩⟩
theorem a03:vP.Sz 1 10:=by
 have z1:sz 1<=1:=by rw[yG];decide
 have z0:sz 0<=1:=by rw[fH];decide
 refine⟨λq hq=>?_,λq hq=>?_,λx hx=>?_,by decide⟩
 .simp only[vP,List.mem_cons,List.not_mem_nil,or_false] at hq;rcases hq with rfl|rfl
  .exact z1
  .exact z0
 .simp only[vP,List.mem_cons,List.not_mem_nil,or_false] at hq;rcases hq with rfl|rfl
  .exact z0
  .exact z1
 .simp only[vP,List.mem_cons,List.not_mem_nil,or_false] at hx;rcases hx with rfl|rfl|rfl <;> exact z1
theorem bu5 {m:bQ}{B:Nat}(ok:m.Ok)(hk:m.k=1)(h1:1<=B)(g:List Int->BK->Bool × BK)(e:∀ w,iy 1 w->∀ y,oL m w y=g w y)(hz:∀ w,iy 1 w->w.length<=2->∀ i,sz ((aZ m w).getD i 0)<=B)
  (g1:(g [] ⟨[],[]⟩).1=true) (g2:(g [1] (g [] ⟨[],[]⟩).2).1=true) (g3:(g [1,1] (g [1] (g [] ⟨[],[]⟩).2).2).1=false):iw m B [] (g [1,1] (g [1] (g [] ⟨[],[]⟩).2).2).2:=by
 have w0:iy 1 []:=λx hx=>by cases hx
 have w1:iy 1 [1]:=λx hx=>by rw[lV hx];decide
 have w2:iy 1 [1,1]:=λx hx=>by
  simp only[List.mem_cons,List.not_mem_nil,or_false] at hx;rcases hx with rfl|rfl <;> decide
 have s1:=((iw.start m B).next ok h1 (hz [] w0 (by decide))).1 (by rw[e _ w0];exact g1)
 rw[e _ w0,hk,show ([]:List (List Int))++dD 1 []=[[1]] from by decide] at s1
 have s2:=(s1.1.next ok h1 (hz [1] w1 (by decide))).1 (by rw[e _ w1];exact g2)
 rw[e _ w1,hk,show ([]:List (List Int))++dD 1 [1]=[[1,1]] from by decide] at s2
 have s3:=(s2.1.next ok h1 (hz [1,1] w2 (by decide))).2 (by rw[e _ w2];exact g3)
 rw[e _ w2] at s3;exact s3.1
def BD (f:List Int->List Rat)(w:List Int)(y:BK):Bool × BK:=if bW y.rs (f w)=true then (true,⟨y.ks++[w],y.rs++[newR y.rs (f w)]⟩) else (false,y)
theorem aH1:(ah [vP]).k=1:=tY
theorem bG4 {e:Nat}(z:(ah [vP]).Sz e)(ok:(ah [vP]).Ok):∃ y,iw (aU (ah [vP])) 16777215 [] y/\y.ks=[[],[1]] :=
 ⟨_,bu5 (qC ok) (lg.trans aH1) (by decide) (oL (aU (ah [vP]))) (λ_ _ _=>rfl) (λw _ hw i=>Nat.le_trans (mV z.turn (Nat.le_trans hw (by decide)) i) (by decide)) (by decide +kernel) (by decide +kernel) (by decide +kernel),by decide +kernel⟩
theorem bu6 {e:Nat}(z:(ah [vP]).Sz e)(ok:(ah [vP]).Ok):jw (aU (ah [vP]))=[[],[1]]/\bn (ah [vP])=[[],[1]]/\VL vP=2:=by
 obtain⟨y,hy,hk⟩:=bG4 z ok;have hb:jw (aU (ah [vP]))=[[],[1]]:=by rw[<- hy.bas,hk]
 obtain⟨mv,v⟩:=JU ok hy;have hL:∀ l,l ∈ jw (aU (ah [vP]))->l.length<=3:=λl hl=>by
  rw[hb] at hl;simp only[List.mem_cons,List.not_mem_nil,or_false] at hl;rcases hl with rfl|rfl <;> decide
 have r:iw mv 16777215 [] (BD (bG (ah [vP]) [[],[1]]) [1,1] (BD (bG (ah [vP]) [[],[1]]) [1] (BD (bG (ah [vP]) [[],[1]]) [] ⟨[],[]⟩).2).2).2 :=
  bu5 v.ok (v.k.trans aH1) (by decide) (BD (bG (ah [vP]) [[],[1]])) (λw hw y=>by unfold oL BD;rw[v.vec w (by rw[aH1];exact hw),hb])
   (λw hw h2 i=>by rw[v.vec w (by rw[aH1];exact hw)];exact Nat.le_trans (JX z (Nat.le_succ_of_le h2) hL i) (by decide)) (by decide +kernel) (by decide +kernel) (by decide +kernel)
 have hp:=Nv (hy.first ok v r)
 have hr:=hy.rank ok v r;refine⟨hb,by rw[hp];decide +kernel,?_⟩
 rw[aH1] at hr;exact hr.symm.trans (by decide +kernel)
theorem aW7 {e:Nat}(z:(ah [vP]).Sz e)(ok:(ah [vP]).Ok):dF (dF (qV (ah [vP]) (bn (ah [vP]))))=[⟨0,1,1,1⟩,⟨1,1,0,-1⟩,⟨1,1,1,2⟩]:=by
 obtain⟨h1,h2,_⟩:=bu6 z ok;unfold qV Y3 Uw Qn lD;rw[h1,h2];have h:∀ {a b:List bM},a.length=b.length->(a.map λx=>(x.f,x.l,x.t,x.q))=(b.map λx=>(x.f,x.l,x.t,x.q))->a=b:=by
  intro a
  induction a with
  | nil=>intro b hl _;cases b with
   | nil=>rfl
   | cons=>cases hl
  | cons x a ih => intro b hl he; cases b with
   | nil=>cases hl
   | cons y b =>
    rw[List.map_cons,List.map_cons] at he;obtain⟨e1,e2⟩:=List.cons.inj he;rw[ih (Nat.succ.inj hl) e2];cases x;cases y
    simp only[Prod.mk.injEq] at e1;obtain⟨rfl,rfl,rfl,rfl⟩:=e1;rfl
 exact h (by decide +kernel) (by decide +kernel)
section
variable {k n B l i:Nat}{f:List Int->List Rat}{Lv kept K:List (List Int)}{rs:List dh}{m:bQ}{e:Nat}
theorem am6 (h:JS k n B f l Lv i kept K rs)(hi:i<Lv.length):(Lv.getD i []).length<=n:=by
 have hm:Lv.getD i [] ∈ Lv:=getD_mem hi [];have h1:=h.s.sp.le;have h2:=h.s.len;cases hc:Lv.getD i [] with
 | nil=>exact Nat.zero_le _
 | cons s u =>
  have h3:=h.lv.tail _ hm s u hc;have h4:=FX h.s.ord (λu hu hne=>by
   cases u with
   | nil=>exact absurd rfl hne
   | cons s u=>exact⟨u,h.s.tail s u hu,rfl⟩) u h3
  rw[List.length_cons];omega
theorem PO (h1:1<=B)(hfl:∀ w,(f w).length=n)(hz:∀ w,iy k w->w.length<=n->∀ j,sz ((f w).getD j 0)<=B):∀ (d i:Nat) (kept K:List (List Int)) (rs:List dh),i+d=Lv.length->JS k n B f l Lv i kept K rs ->
  ∃ kept' K' rs',JS k n B f l Lv Lv.length kept' K' rs' /\ K'.length+kept.length=K.length+kept'.length
 | 0,i,kept,K,rs,hd,h=>⟨kept,K,rs,by rw[<- hd];exact h,rfl⟩
 | d + 1, i, kept, K, rs, hd, h => by
  have hi:i<Lv.length:=by omega
  have hc:=hz _ (h.lv.uN _ (getD_mem hi [])) (am6 h hi);by_cases hg:bW rs (f (Lv.getD i []))=true
  .obtain⟨k2,K2,r2,s,e⟩:=PO h1 hfl hz d (i+1) _ _ _ (by omega) (h.yes hi (hfl _) h1 hc hg)
   refine⟨k2,K2,r2,s,?_⟩;rw[jd,jd] at e;simp only[kC] at e;omega
  .exact PO h1 hfl hz d (i+1) _ _ _ (by omega) (h.no hi (hfl _) (by simpa using hg))
theorem SH (h1:1<=B)(hfl:∀ w,(f w).length=n)(hz:∀ w,iy k w->w.length<=n->∀ j,sz ((f w).getD j 0)<=B)(hf:Sj k n f):∀ (N l:Nat) (Lv K:List (List Int)) (rs:List dh),n-K.length<=N->Lc k n B f l Lv K rs->∃ l' K' rs',Lc k n B f l' [] K' rs'
 | N, l, Lv, K, rs, hN, h => by
  obtain⟨k2,K2,r2,s,e⟩:=PO h1 hfl hz Lv.length 0 [] K rs (by omega) h.begin
  have hd:=s.done hf;cases hk:k2 with
  | nil =>
   rw[hk,show Iy k []=[] by unfold Iy;simp] at hd
   exact⟨_,_,_,hd⟩
  | cons x t =>
   have h2:=s.s.sp.le;have h3:=s.s.len;rw[hk] at e;simp only[List.length_nil,List.length_cons] at e
   match N,hN with
   | 0,hN=>omega
   | N+1,hN=>exact SH h1 hfl hz hf N _ _ _ _ (by omega) hd
theorem PS {L:List (List Int)}{u:List Int}(z:m.Sz e)(hu:u.length<=6)(hL:∀ l,l ∈ L->l.length<=6)(i:Nat):sz ((bG m L u).getD i 0)<=69177619:=by
 rcases Nat.lt_or_ge i L.length with hi|hi
 .rw[Ah hi];have h:=KH (n:=m.n) z.n6 (u:=vf (aZ m u)) (v:=vf (aZ (aU m) (L.getD i []))) (λi=>mV z hu i) (λi=>mV z.turn (hL _ (getD_mem hi [])) i);exact Nat.le_trans h (by omega)
 .rw[xu (by rw[jQ];exact hi),fH];decide
theorem Uz (ok:m.Ok)(z:m.Sz e):∃ y,iw m 69177619 [] y/\y.ks=jw m:=Nl ok z.n6 (by decide) λ_ _ h6 i=>Nat.le_trans (mV z h6 i) (by decide)
theorem GV (ok:m.Ok)(z:m.Sz e):∀ l,l ∈ jw m->l.length<m.n:=λl hl=>by
 obtain⟨y,hy,e⟩:=Uz ok z;have h1:=hy.short l (by rw[e];exact hl)
 have h2:=hy.b.few.2;omega
theorem aH2 (ok:m.Ok)(z:m.Sz e)(hk:1<=m.k):PE m (Ld m):=by
 have ok2:=qC (qC ok);obtain⟨y,hy,hb⟩:=Uz ok2 z.turn.turn;have hf:=Sr ok hy;have hs:=GV ok2 z.turn.turn;have hn:(jw (aU (aU m))).length<=m.n:=by rw[<- hb];exact hy.b.few.2
 have hm6:=z.n6;obtain⟨l',K',rs',s⟩:=SH (k:=m.k) (B:=69177619) (f:=al7 m) (by decide) (λw=>jQ)
  (λw hw hl j=>PS z.turn (by rw[List.length_reverse];omega) (λl hl=>by have h1:l.length<m.n:=hs l hl;omega) j) hf _ 0 [[]] [] [] (Nat.le_refl _) Lc.start
 have h:=Lc.fin ok hk hy s;rw[aV6 h];exact h
structure bg5 (m:bQ) (K:List (List Int)):Prop where
 first:mG m.k (λu l=>kU m (u++l)) K
 init:∀ u,u ∈ K->u≠[]->u.dropLast ∈ K
 rank:K.length=EI m.k (kU m)
 short:∀ u,u ∈ K->u.length<K.length
theorem Aj (ok:m.Ok)(z:m.Sz e):bg5 m (bn m)/\(bn m).length<=m.n:=by
 obtain⟨y,hy,hb⟩:=Uz (qC ok) z.turn;obtain⟨mv,v⟩:=JU ok hy;have hs:=GV (qC ok) z.turn;have hm6:=z.n6;have hn:(jw (aU m)).length<=m.n:=by rw[<- hb];exact hy.b.few.2
 obtain⟨x,hx,_⟩:=Nl (m:=mv) (B:=69177619) v.ok (by rw[v.n];omega) (by decide) λw hw h6 i=>by
  rw[v.vec w (by rw[<- v.k];exact hw)]
  exact PS z h6 (λl hl=>by have h1:l.length<m.n:=hs l hl;omega) i
 have hf:=hy.first ok v hx
 rw[Nv hf];have h2:=hx.b.few.2;rw[v.n] at h2;exact⟨⟨hf,λu hu hne=>hx.closed hu hne,hy.rank ok v hx,hx.short⟩,Nat.le_trans h2 hn⟩
theorem mG.lt {h:List Int->List Int->Rat}(f:mG k h K){j:Nat}(hj:j<K.length)(h0:0<j):qN (K.getD (j-1) []) (K.getD j [])<0:=by
 have h1:=List.pairwise_iff_getElem.1 f.ord (j-1) j (by omega) hj (by omega)
 rw[iO,iO,lF (by omega),lF hj]
 exact h1
end
end Go.AL
namespace Go.Proofs.YtanlenlmihoiiaaGreatDoor
open Go Go.AL
theorem lt3 {m:Nat}{ops:Array Oper}{K:S->Prop}{s:S}{dst:Option Nat}{ty:Nat}{pos:String}{after:Array Edge}{r:List Oper}{t e sz eF:Nat}{x x2 x3:Operand}{y y2 y3:D}(hT:bH P t e sz eF)(hx:VD (s.ev x) y)(hx2:VD (s.ev x2) y2)(hx3:VD (s.ev x3) y3)(hs:y.cells.length=sz/\y2.cells.length=sz/\y3.cells.length=sz)(Xp:sz<=4194304)(h:OL P m ops K r (s.put dst (.d (.sl [y,y2,y3])))):OL P m ops K (⟨dst,.buildSlice t 3 #[(0,x),(1,x2),(2,x3)],ty,pos,after,none⟩:: r) s:=OL.NT (.Xu (xs:=[y,y2,y3]) hT rfl rfl (by omega) (by omega) (λi p z hp hz=>by
 match i,hp,hz with
 | 0,hp,hz=>simp at hp hz;subst hp hz;exact hx
 | 1,hp,hz=>simp at hp hz;subst hp hz;exact hx2
 | 2,hp,hz=>simp at hp hz;subst hp hz;exact hx3
 | i+3,hp,hz=>simp at hp) (λz hz=>by simp at hz;rcases hz with rfl|rfl|rfl;exact hs.1;exact hs.2.1;exact hs.2.2)) h
theorem aH3:VD (.ag [.d (dB false),.mt,.mt,.d (dI 0),.d (dB false),.d (dU 0),.mt,.mt]) (dW 0):=by
 have e:dW 0=.ag [dB false,.sl [],.sl [],dI 0,dB false,dU 0,.sl [],.sl []]:=by unfold dW;rw[rG];rfl
 rw[e];exact VD.ag (.cons (VC.d _) (.cons VC.mt (.cons VC.mt (.cons (VC.d _) (.cons (VC.d _) (.cons (VC.d _) (.cons VC.mt (.cons VC.mt .nil))))))))
theorem ac9:Au.Take vP 1:=⟨⟨bu4,a03.wide,rfl,(show 1<=32 by decide),(show 2<=64 by decide)⟩,a03.few (show 2<=6 by decide)⟩
theorem am7:ai P F.jL [uY vP] (.oM [uY ⟨1,2,[1,0],[kQ vP [],kQ vP [1]],[⟨0,1,1,1⟩,⟨1,1,0,-1⟩,⟨1,1,1,2⟩]⟩,.d (dI 0)]):=by
 obtain⟨ok,_,z6,_⟩:=EK ac9 (by decide)
 obtain⟨_,h2,h3⟩:=bu6 z6 ok;have h:=PL ac9 (by decide) (by decide) (by decide) (by rw[h3];decide)
 rw[aW7 z6 ok,h2] at h;exact h
theorem bg6:sz (-1)<=68719476736:=by rw[EY,yG];decide
theorem bu7:sz 2<=68719476736:=by
 have h:=zQ 1 1;rw[yG,show (1:Rat)+1=2 by decide +kernel] at h
 exact Nat.le_trans h (by decide)
theorem bu8:((2:Int):Rat) / ((1:Int):Rat)=2:=by decide +kernel
theorem bu9:((1:Int):Rat) / ((1:Int):Rat)=1:=by decide +kernel
theorem a04 {p:Rat}(hp:sz p<=68719476736):ai P F.xe [vQ p,vQ p] (.d (dB true)):=by
 have h:=GI (p:=p) (q:=p) hp hp
 rwa [decide_eq_true rfl] at h
theorem bG5 (m:gB):(dS m 2 3).st<=3:=Hu.2
structure Wds (m:gB):Prop where
 pk:bg5 (ah [dS m 2 3]) (bn (ah [dS m 2 3]))
 sk:PE (ah [dS m 2 3]) (Ld (ah [dS m 2 3]))
 pl:(bn (ah [dS m 2 3])).length=VL (dS m 2 3)
 sl:(Ld (ah [dS m 2 3])).length=VL (dS m 2 3)
 r3:VL (dS m 2 3)<=3
theorem wds (m:gB):Wds m:=by
 obtain⟨ok,_,z6,hn⟩:=EK (kW (m:=m)) (by decide)
 obtain⟨pk,pn⟩:=Aj ok z6;have sk:=aH2 ok z6 (by rw[tY];exact (show 1<=2 by decide))
 have pl:(bn (ah [dS m 2 3])).length=VL (dS m 2 3):=by rw[pk.rank,tY];rfl
 have sl:(Ld (ah [dS m 2 3])).length=VL (dS m 2 3):=by rw[sk.rank,tY];rfl
 have:=bG5 m;exact⟨pk,sk,pl,sl,by omega⟩
theorem uT  : ai P F.uT [] (jG):=by
 refine ai.intro fn.uT (by rfl) (by rfl) (au (by rfl)) λE hE=>(AW.sg hE rfl (al z.Ring rfl λb0=>(OL.nil (AW.sg hE rfl (bd z.Ring pl.Ring (cs:=[_,_]) rfl (eG sz.Ring rfl rfl rfl rfl rfl (au rfl) (cells2:=[_,_]) rfl (OL.nil ?_)))))))
 exact AW.ret (aT.r ⟨_,.dK rfl rfl ag.Ring (au rfl) .nil,.ag (.cons (.le vR) (.cons (.le (bV.mt)) .nil))⟩)
theorem vC {m:gB}{e:Bool}(n1:m.ini.length<=9223372036854775807)(n2:m.fin.length<=9223372036854775807)(n3:m.aB.length<=9223372036854775807):ai P F.vC [Un m e] (uY (dS m 2 3)):=by
 refine ai.intro fn.vC (by rfl) (by rfl) (au (by rfl)) λE hE=>(AW.sg hE rfl (iG rfl rfl λb1=>(al z.Auto rfl λb2=>(OL.nil (AW.sg hE rfl (aV fd.ZM rfl rfl (eG sz.bool rfl rfl rfl rfl rfl (au rfl) (cells2:=[_,_,_,_,_]) rfl ?_)))))))
 refine OL.nil (AW.seq (AW.dg 1 [0,1,2,3] ak hE rfl (by kernel_rfl) (OI.aP (os:=[_,_,_,_]) rfl ?_)))
 exact aQ ag.Model rfl rfl (vs:=[_,_,_,_,_]) rfl (au rfl) (bP rfl (.nil) (uT) (bP rfl vL (bs6 (m:=m) (sym:=2) (most:=3) (by decide) (by decide) n1 n2 n3) (eG sz.Auto rfl rfl rfl rfl rfl (au rfl) (cells2:=[_,_,_,_,_,_,_]) rfl (OL.nil (AW.ret (aT.r ⟨_,.dK rfl rfl ag.Auto (au rfl) .nil,.ag (.cons (.le vR) (.cons (.le vR) (.cons (.le vR) (.cons (.le vR) (.cons (.le vR) (.cons (.le vR) (.cons (.le vR) .nil)))))))⟩))))))
theorem Dl  : ai P F.MX [.d (dI 1),.d (dI 1)] (vW 1):=by
 refine ai.intro fn.MX (by rfl) (by rfl) (au (by rfl)) λE hE=>(AW.sg hE rfl (al z.ay rfl λb4=>(OL.nil (AW.sg hE rfl (aj rfl (aj rfl (bP rfl vL (GK (n:=1) (d:=1) (by decide) (by decide) (by decide)) ?_)))))))
 rw[bu9];exact bd z.ay pl.ay (cs:=[_,_,_,_,_,_,_,_]) rfl (eG sz.ay rfl rfl rfl rfl rfl (au rfl) (cells2:=[_,_,_,_,_,_,_,_]) rfl (OL.nil (AW.ret (aT.r ⟨_,.dK rfl rfl ag.ay (au rfl) .nil,.le FM⟩))))
set_option maxRecDepth 8000 in
set_option maxHeartbeats 1600000 in
theorem vF  : ai P F.vF [] (.d (dB true)):=by
 refine ai.intro fn.vF (by rfl) (by rfl) (au (by rfl)) λE hE=>(AW.sg hE rfl (aG rfl (OL.nil (AW.sg hE rfl (bP rfl (.nil) (uT) (bP rfl vL (Dl) (bd z.ay pl.ay (cs:=[_,_,_,_,_,_,_,_]) rfl ?_)))))))
 refine lt2 (y:=dW 1) (y2:=dW 0) sl.aS MK aH3 ⟨rfl,rfl⟩ (by decide) (bd z.ay pl.ay (cs:=[_,_,_,_,_,_,_,_]) rfl (bP rfl vL (Dl) (lt2 (y:=dW 0) (y2:=dW 1) sl.aS aH3 MK ⟨rfl,rfl⟩ (by decide) (bP rfl vL (Dl) (Ko (cs:=[_,_,_,_,_,_,_,_,_,_,_]) z.mQ pl.mQ (jR (by exact rq rfl) (jR (by exact rq rfl) (jR (by exact rq rfl) (jR (by exact U7 rfl) (J9))))) (by rfl) (bP rfl vL (Dl) ?_))))))
 refine Ko (cs:=[_,_,_,_,_,_,_,_,_,_,_]) z.mQ pl.mQ (jR (by exact rq rfl) (jR (by exact rq rfl) (jR (by exact rq rfl) (jR (by exact U7 rfl) (J9))))) (by rfl) (bP rfl vL (Dl) (Ko (cs:=[_,_,_,_,_,_,_,_,_,_,_]) z.mQ pl.mQ (jR (by exact rq rfl) (jR (by exact rq rfl) (jR (by exact rq rfl) (jR (by exact U7 rfl) (J9))))) (by rfl) (lt3 (y:=jv ⟨0,1,0,1⟩) (y2:=jv ⟨0,1,1,1⟩) (y3:=jv ⟨1,1,1,1⟩) sl.bZ (wO (x:=⟨0,1,0,1⟩)) (wO (x:=⟨0,1,1,1⟩)) (wO (x:=⟨1,1,1,1⟩)) ⟨rfl,rfl,rfl⟩ (by decide) ?_)))
 refine Ko (cs:=[_,_,_,_,_,_,_]) z.Auto pl.Auto (jR (by exact U7 rfl) (jR (by exact rq rfl) (jR (by exact rq rfl) (jR (by exact rq rfl) (jR (by exact rq rfl) (jR (by exact rq rfl) (J9))))))) (by rfl) (al z.Auto rfl λb1=>(eG sz.Auto rfl rfl rfl rfl rfl (au rfl) (cells2:=[_,_,_,_,_,_,_]) rfl (OL.nil (AW.sg hE rfl (aQ ag.Auto rfl rfl (vs:=[_,_,_,_,_,_,_]) rfl (au rfl) (bP rfl vL (am7) (ES rfl ?_)))))))
 refine ex rfl rfl (ex rfl rfl (al z.Auto rfl λb2=>(eG sz.Auto rfl rfl rfl rfl rfl (au rfl) (cells2:=[_,_,_,_,_,_,_]) rfl (aG rfl (OL.nil (AW.seq (AW.dg 1 [0,1,2,3,4,5,6,7,8,9,10,11,12,13,14,15,16,17,18,19,20,21,22,23,24,25,26,27,28,29,30,31,32,33] ak hE rfl (by kernel_rfl) (OI.aP (os:=[_,_,_,_,_,_,_,_,_,_,_,_,_,_,_,_,_,_,_,_,_,_,_,_,_,_,_,_,_,_,_,_,_,_]) rfl ?_))))))))
 refine aj rfl (fE rfl rfl (c:=true) (decide_eq_true rfl) (aj rfl (OL.yes rfl (aV fd.jf rfl rfl (OL.yes rfl (aA ce.int rfl rfl rfl (OL.yes rfl ?_)))))));refine fE rfl rfl (c:=true) (decide_eq_true rfl) (nJ rfl rfl (aj rfl (OL.yes rfl (aV fd.fM rfl rfl (OL.yes rfl (aA ce.bZ rfl rfl rfl (OL.yes rfl ?_)))))));refine fO sl.bZ rfl rfl (OL.yes rfl (fE rfl rfl (c:=true) (decide_eq_true rfl) (nJ rfl rfl (aj rfl (OL.yes rfl (aV fd.fM rfl rfl (OL.yes rfl ?_)))))));refine aA ce.bZ rfl rfl rfl (OL.yes rfl (fD (i:=1) sl.bZ default rfl rfl (by decide) rfl rfl (OL.yes rfl (Qw fd.qG rfl rfl (OL.yes rfl (Qw fd.gG rfl rfl (OL.yes rfl ?_)))))))
 refine iR ag.Rat rfl (vs:=[_,_,_]) rfl (au rfl) (OL.yes rfl (bP rfl vL (GK (n:=-1) (d:=1) (by decide) (by decide) (by decide)) ?_))
 rw[aG9];refine OL.yes rfl (bP rfl vL (a04 (p:=-1) bg6) (nJ rfl rfl (aj rfl (OL.yes rfl (aV fd.fM rfl rfl (OL.yes rfl (aA ce.bZ rfl rfl rfl ?_)))))));refine OL.yes rfl (fD (i:=2) sl.bZ default rfl rfl (by decide) rfl rfl (OL.yes rfl (Qw fd.qG rfl rfl (OL.yes rfl (Qw fd.gG rfl rfl (OL.yes rfl (iR ag.Rat rfl (vs:=[_,_,_]) rfl (au rfl) ?_)))))))
 refine OL.yes rfl (bP rfl vL (GK (n:=2) (d:=1) (by decide) (by decide) (by decide)) ?_)
 rw[bu8];exact OL.yes rfl (bP rfl vL (a04 (p:=2) bu7) (nJ rfl rfl (aG rfl (OL.nil (AW.ret (aT.r ⟨_,.tmp rfl .nil,.le vR⟩))))))
end Go.Proofs.YtanlenlmihoiiaaGreatDoor
namespace Go.AL
open Go Go.BigFrame
section
variable {m a b:bQ}{B n e i s j:Nat}{vs:List (List Rat)}{y:BK}{w l:List Int}{K:List (List Int)}
theorem PU:∀ (k:Nat) (vs:List (List Rat)),vs.length=k->(lU vs).length<=vs.length
 | 0,vs,h=>by rw[EQ h];exact Nat.le_refl _
 | k+1,vs,h=>by
  have hne:vs≠[]:=λe=>by rw[e] at h;cases h
  obtain⟨z,x,rfl⟩:∃ z x,vs=z++[x]:=⟨vs.dropLast,vs.getLast hne,(List.dropLast_concat_getLast hne).symm⟩;rw[jd,kC] at h;have ih:=PU k z (by omega)
  rw[xC,jd,kC];unfold tq
  split
  .rw[jd,kC];omega
  .omega
theorem Xg:∀ (k:Nat) (vs:List (List Rat)),vs.length=k->(∀ v,v ∈ vs->v.length=n)->(lU vs).length=vs.length->Pm n (lU vs) vs
 | 0,vs,h,_,_=>by rw[EQ h];exact Pm.nil
 | k + 1, vs, h, hl, he => by
  have hne:vs≠[]:=λe=>by rw[e] at h;cases h
  obtain⟨z,x,rfl⟩:∃ z x,vs=z++[x]:=⟨vs.dropLast,vs.getLast hne,(List.dropLast_concat_getLast hne).symm⟩;rw[jd,kC] at h;have hle:=PU k z (by omega)
  rw[xC,jd,kC] at he;rw[xC];by_cases hg:bW (lU z) x=true
  .rw[show tq (lU z) x=lU z++[newR (lU z) x] from if_pos hg] at he ⊢
   rw[jd,kC] at he;exact (Xg k z (by omega) (λv hv=>hl v (List.mem_append.2 (.inl hv))) (by omega)).grow (hl x (List.mem_append.2 (.inr (List.mem_singleton.2 rfl))))
  .rw[show tq (lU z) x=lU z from if_neg hg] at he
   omega
theorem FY (ok:m.Ok)(n6:m.n<=6)(h1:1<=B)(hz:∀ w,iy m.k w->w.length<=6->∀ i,sz ((aZ m w).getD i 0)<=B):∀ (N:Nat) (Q:List (List Int)) (y:BK),iw m B Q y->y.rs=lU (y.ks.map (aZ m))->jM m Q y.rs<=N->∃ y,iw m B [] y/\y.rs=lU (y.ks.map (aZ m))
 | N,[],y,h,hr,_=>⟨y,h,hr⟩
 | 0,w::Q,y,h,hr,hN=>by
  have:=vI (m:=m) (w:=w) (Q:=Q) (rs:=y.rs);omega
 | N + 1, w :: Q, y, h, hr, hN => by
  have hw:iy m.k w:=by
   obtain⟨V,j,_⟩:=h.join;exact j.EO.uN w (.inr rY)
  have h6:=h.b.six n6 w rY;obtain⟨ht,hf⟩:=h.next ok h1 (hz w hw h6)
  have keep:(oL m w y).2.rs=lU ((oL m w y).2.ks.map (aZ m)):=by
   unfold oL;by_cases hg:bW y.rs (aZ m w)=true
   .rw[if_pos hg];show y.rs++[newR y.rs (aZ m w)]=lU ((y.ks++[w]).map (aZ m))
    rw[List.map_append,List.map_cons,List.map_nil,xC,<- hr];exact (if_pos hg).symm
   .rw[if_neg hg];exact hr
  cases hk:(oL m w y).1 with
  | true=>exact FY ok n6 h1 hz N _ _ (ht hk).1 keep (by have:=(ht hk).2;omega)
  | false=>exact FY ok n6 h1 hz N _ _ (hf hk).1 keep (by have:=(hf hk).2;omega)
theorem Y5 (h:iw m B [] y)(ok:m.Ok)(hw:iy m.k w):bW y.rs (aZ m w)=false:=by
 obtain⟨V,j,_⟩:=h.join;refine (zh j.ech (lu ok w)).2 ((j.EO.reach w hw λq hq=>by cases hq).trans λb hb=>?_)
 obtain⟨u,hu,rfl⟩:=jH hb;exact j.kept u (eY.1 hu).1
theorem PW {k:Nat}{u l:List Int}(hu:iy k u)(hl:iy k l):iy k (u++l):=λq hq=>(ru hq).elim (hu q) (hl q)
theorem a05 {α β:Type}{f:α->β}{d:α}{e:β}{l:List α}{i:Nat}(hi:i<l.length):(l.map f).getD i e=f (l.getD i d):=by
 rw[iO,List.getElem?_map,lF hi,iO,lF hi];rfl
theorem JZ (ok:m.Ok)(z:m.Sz e)(hi:i<(bn m).length)(hs:s<m.k)(hl:iy m.k l) :
  kU m (((bn m).getD i []++[((s+1:Nat):Int)])++l)=uG (λu l=>kU m (u++l)) (bn m) (λj=>(lD m (bn m) i s).getD j 0) l:=by
 obtain⟨y,hy,hb⟩:=Uz (qC ok) z.turn;obtain⟨mv,v⟩:=JU ok hy;have hsh:=GV (qC ok) z.turn;have hm6:=z.n6;have hn:(jw (aU m)).length<=m.n:=by rw[<- hb];exact hy.b.few.2
 obtain⟨x,hx,hr⟩:=FY (m:=mv) (B:=69177619) v.ok (by rw[v.n];omega) (by decide) (λw hw h6 i=>by
  rw[v.vec w (by rw[<- v.k];exact hw)]
  exact PS z h6 (λl hl=>by have h1:l.length<m.n:=hsh l hl;omega) i) _ _ _ (iw.start mv 69177619) rfl (Nat.le_refl _)
 have hf:=hy.first ok v hx
 have hK:=Nv hf;have uN:∀ u,u ∈ bn m->iy m.k u:=by rw[hK];exact hf.uN
 have hmap:x.ks.map (aZ mv)=(bn m).map (bG m (jw (aU m))):=by
  rw[hK];exact List.map_congr_left λu hu=>v.vec u (hf.uN u hu)
 have hrs:x.rs=lU ((bn m).map (bG m (jw (aU m)))):=by rw[hr,hmap]
 have hlen:(lU ((bn m).map (bG m (jw (aU m))))).length=((bn m).map (bG m (jw (aU m)))).length:=by
  rw[<- hrs,dL,hK];exact hx.b.few.1.symm
 have by9:=Xg (n:=(jw (aU m)).length) _ _ rfl (λv hv=>by obtain⟨u,_,rfl⟩:=jH hv;exact jQ) hlen
 have hws:iy m.k ((bn m).getD i []++[((s+1:Nat):Int)]):=λq hq=>by
  rcases ru hq with hq|hq
  .exact uN _ (getD_mem hi []) q hq
  .rw[lV hq];omega
 have hg:bW (lU ((bn m).map (bG m (jw (aU m))))) (bG m (jw (aU m)) ((bn m).getD i []++[((s+1:Nat):Int)]))=false:=by
  rw[<- hrs,<- v.vec _ hws];exact Y5 hx v.ok (by rw[v.k];exact hws)
 have hlr:iy m.k l.reverse:=ED hl;obtain⟨V,jn,_⟩:=hy.join;rw[hb] at jn;obtain⟨d,hd⟩:=Si ok jn hlr;have hw:∀ u,kU m (u++l)=aW (λq=>d q*jW m u ((jw (aU m)).getD q [])) (jw (aU m)).length:=λu=>by
  rw[<- hd u,Bv _ u hlr,List.reverse_reverse]
 unfold uG;rw[hw];have e1:∀ q,q<(jw (aU m)).length->jW m ((bn m).getD i []++[((s+1:Nat):Int)]) ((jw (aU m)).getD q [])=aW (λj=>(lD m (bn m) i s).getD j 0*jW m ((bn m).getD j []) ((jw (aU m)).getD q [])) (bn m).length:=λq hq=>by
  have h:=by9.find jQ hg hq;rw[Ah hq,dL] at h;rw[h];refine aF λj hj=>?_;rw[a05 (d:=[]) hj,Ah hq];rfl
 rw[aF (g:=λq=>aW (λj=>(lD m (bn m) i s).getD j 0*(jW m ((bn m).getD j []) ((jw (aU m)).getD q [])*d q)) (bn m).length) λq hq=>by
  show d q*_=_
  rw[e1 q hq,Rat.mul_comm,<- nG];exact aF λj _=>Rat.mul_assoc ..,pJ]
 refine aF λj _=>?_;show aW (λq=>_*_) _=_*kU m _
 rw[ig,hw];congr 1;exact aF λq _=>Rat.mul_comm ..
theorem Xh (oka:a.Ok)(za:a.Sz e)(okb:b.Ok)(zb:b.Sz n)(hk:a.k=b.k)(h:∀ w,iy a.k w->kU a w=kU b w):bn a=bn b:=by
 have fa:=(Aj oka za).1.first
 have fb:=(Aj okb zb).1.first
 rw[<- hk] at fb;exact fa.unique (fb.congr λu l hu hl=>h _ (PW hu hl))
theorem am8 (oka:a.Ok)(za:a.Sz e)(okb:b.Ok)(zb:b.Sz n)(hk:a.k=b.k)(h:∀ w,iy a.k w->kU a w=kU b w)(hi:i<(bn a).length)(hs:s<a.k)(hj:j<(bn a).length):(lD a (bn a) i s).getD j 0=(lD b (bn b) i s).getD j 0:=by
 have fa:=(Aj oka za).1.first
 have hp:=Xh oka za okb zb hk h;refine fa.only (c:=λj=>(lD a (bn a) i s).getD j 0) (d:=λj=>(lD b (bn b) i s).getD j 0) (λl hl=>?_) hj;have h1:=JZ oka za hi hs hl;have h2:=JZ okb zb (i:=i) (s:=s) (l:=l) (by rw[<- hp];exact hi) (by rw[<- hk];exact hs) (by rw[<- hk];exact hl)
 rw[<- h1,h _ (PW (λq hq=>by
  rcases ru hq with hq|hq
  .exact fa.uN _ (getD_mem hi []) q hq
  .rw[lV hq];omega) hl),hp,h2]
 unfold uG;rw[<- hp];exact aF λt ht=>by
  show _*kU b _=_*kU a _
  rw[h _ (PW (fa.uN _ (getD_mem ht [])) hl)]
def dV (c:Nat->Nat->Nat->Rat)(n:Nat)(w:List Int):Nat->Rat:=w.foldl (λv x j=>aW (λi=>v i*c i (x.toNat-1) j) n) λj=>if 0=j then 1 else 0
theorem aH4 (h:bg5 m K)(h0:0<K.length):K.getD 0 []=[]:=by
 have hl:=Sl h.first.ord (λu hu hne=>⟨u.dropLast,h.init u hu hne,by
  rw[List.length_dropLast];have:0<u.length:=by cases u with
   | nil=>exact absurd rfl hne
   | cons=>exact Nat.succ_pos _
  omega⟩) _ 0 h0 rfl
 rw[iO,lF h0];exact EQ (by show K[0].length=0;omega)
theorem Y6 (ok:m.Ok)(z:m.Sz e)(h0:0<(bn m).length):∀ (N:Nat) (w:List Int),w.length=N->iy m.k w->∀ l,iy m.k l->kU m (w++l)=uG (λu l=>kU m (u++l)) (bn m) (dV (λi s j=>(lD m (bn m) i s).getD j 0) (bn m).length w) l:=by
 have pk:=(Aj ok z).1;intro N
 induction N with
 | zero =>
  intro w hw _ l hl;rw[EQ hw];have h:=WZ (h:=λu l=>kU m (u++l)) h0 l;rw[aH4 pk h0] at h;exact h.symm
 | succ N ih =>
  intro w hn hw l hl;have hne:w≠[]:=λe=>by rw[e] at hn;cases hn
  obtain⟨z9,x,rfl⟩:∃ z x,w=z++[x]:=⟨w.dropLast,w.getLast hne,(List.dropLast_concat_getLast hne).symm⟩;have hx:=hw x (by simp)
  obtain⟨s,hs,rfl⟩:∃ s:Nat,s<m.k/\x=((s+1:Nat):Int):=⟨x.toNat-1,by omega,by omega⟩
  have hz:iy m.k z9:=λq hq=>hw q (List.mem_append.2 (.inl hq));have es:(((s+1:Nat):Int)).toNat-1=s:=by omega
  have hsl:iy m.k ([((s+1:Nat):Int)]++l):=λq hq=>by
   rcases ru hq with hq|hq
   .rw[lV hq];omega
   .exact hl q hq
  rw[List.append_assoc,ih z9 (by rw[jd,kC] at hn;omega) hz _ hsl]
  unfold uG;rw[aF (g:=λi=>aW (λj=>dV (λi s j=>(lD m (bn m) i s).getD j 0) (bn m).length z9 i*(lD m (bn m) i s).getD j 0*kU m ((bn m).getD j []++l)) (bn m).length) λi hi=>by
   show _*kU m _=_
   rw[<- List.append_assoc,JZ ok z hi hs hl];unfold uG;rw[<- ig];exact aF λj _=>(Rat.mul_assoc ..).symm,pJ]
  refine aF λj _=>?_;rw[nG];congr 1;unfold dV;rw[List.foldl_append];show _=aW (λi=>_*(lD m (bn m) i ((((s+1:Nat):Int)).toNat-1)).getD j 0) _
  rw[es]
end
noncomputable def uj (a:Au):Au:=⟨a.sym,(bn (ah [a])).length,EP (bn (ah [a])).length,(bn (ah [a])).map (kQ a),dF (dF (qV (ah [a]) (bn (ah [a]))))⟩
section
variable {a b:Au}{e n:Nat}
theorem IA {α β:Type}{f g:α->List β}:∀ {l:List α},(∀ x,x ∈ l->f x=g x)->l.flatMap f=l.flatMap g
 | [],_=>rfl
 | x::l,h=>by
  rw[List.flatMap_cons,List.flatMap_cons,h x rY,IA λy hy=>h y (List.mem_cons_of_mem _ hy)]
theorem Y7 {m m':bQ}{K:List (List Int)}(hk:m.k=m'.k)(h:∀ i s j,i<K.length->s<m.k->j<K.length->(lD m K i s).getD j 0=(lD m' K i s).getD j 0):qV m K=qV m' K:=by
 unfold qV;refine IA λi hi=>?_;unfold Y3;rw[<- hk];refine IA λs hs=>?_;unfold Uw;refine List.map_congr_left λj hj=>?_;unfold Qn;rw[h i s j (List.mem_range.1 hi) (List.mem_range.1 hs) (List.mem_range.1 hj)]
theorem aH5 (oka:(ah [a]).Ok)(za:(ah [a]).Sz e)(okb:(ah [b]).Ok)(zb:(ah [b]).Sz n)(hs:a.sym=b.sym)(h:∀ w,iy a.sym w->kQ a w=kQ b w):uj a=uj b:=by
 have hk:(ah [a]).k=(ah [b]).k:=by rw[tY,tY,hs]
 have h':∀ w,iy (ah [a]).k w->kU (ah [a]) w=kU (ah [b]) w:=λw hw=>h w (by rwa [tY] at hw)
 have hp:=Xh oka za okb zb hk h';have hc:=λi s j=>am8 (i:=i) (s:=s) (j:=j) oka za okb zb hk h';rw[<- hp] at hc;unfold uj;rw[<- hp,hs,Y7 hk λi s j h1 h2 h3=>hc i s j h1 h2 h3,List.map_congr_left λu hu=>h u (by
  have:=(Aj oka za).1.first.uN u hu
  rwa [tY] at this)]
variable {r q:Rat}{l t:Nat}
