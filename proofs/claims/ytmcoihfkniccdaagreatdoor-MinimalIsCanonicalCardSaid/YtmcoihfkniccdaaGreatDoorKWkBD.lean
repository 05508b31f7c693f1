/-
  Walks of the laws of chapter 24, part 1: the sanity check; MinimalWordsAreClosed (printed by mk2.py).
-/
import Derived.Test.YtmcoihfkniccdaaGreatDoorKWkAE
import Derived.Test.YtmcoihfkniccdaaGreatDoorKMod105
import Derived.Test.YtmcoihfkniccdaaGreatDoorKAlg44
set_option linter.unusedVariables false
set_option linter.unusedSimpArgs false
namespace Go.Proofs.YtmcoihfkniccdaaGreatDoor
open Go Go.AL
theorem auto3 {m:MModel}:1≤(autoOf m 2 3).st∧(autoOf m 2 3).st≤3:=stOf_le (m:=m) (most:=3) (by decide)
theorem wt_auto3 {m:MModel}:Au.Wt (autoOf m 2 3):=⟨take_auto.fit.ok,auto_sz,(show 2≤32 by decide),take_auto.fit.st⟩
theorem neg_auto {m:MModel}:Au.Fit (scaleOf (autoOf m 2 3) (-1)) 2 :=
 have t:=take_auto (m:=m)
 ⟨t.fit.ok.scale (-1),(auto_sz.scale (by rw [sz_neg,sz_one];exact Nat.le_refl _)).up (by decide) (by decide),rfl,(show 2≤32 by decide),t.fit.st⟩
theorem diff_auto {m n:MModel}:(diffRaw (autoOf m 2 3) (autoOf n 2 3)).Fw:=diff_fw take_auto.fit.ok take_auto.fit.ok auto_sz auto_sz rfl (show 2≤4 by decide) auto3.1 auto6
theorem r23Equal {a b:Au}{s:Nat}(t:Au.Take a s)(w:Au.Wt a)(t2:Au.Take b s)(w2:Au.Wt b)(u:Au.Fit (scaleOf b (-1)) s)(fd:(diffRaw a b).Fw):FSpec P F.ref23_Equal [vAu a,vAu b] (.tup [.d (dB (eqA a b).isNone),.d (ints ((eqA a b).getD [])),.d (dI 0)]):=by
 refine FSpec.intro fn.ref23_Equal (by rfl) (by rfl) (nb9 (by rfl)) fun E hE=>(AW.sg hE rfl (bxA rfl rfl fun b2=>(bxA rfl rfl fun b3=>(asD rfl (asM rfl (asD rfl (OL.nil ?_)))))))
 refine AW.seq (AW.sg hE rfl (ldPA ag.Auto rfl rfl (vs:=[_,_,_,_,_,_,_]) rfl (nb9 rfl) (ldPA ag.Auto rfl rfl (vs:=[_,_,_,_,_,_,_]) rfl (nb9 rfl) (clv rfl vL (r23check t.fit w t2.fit w2) (asD rfl (OL.nil (AW.sg hE rfl ?_)))))))
 refine mvD rfl (c_neq rfl rfl (c:=false) (by exact cne_f (by omega)) (OL.nil (cnF rfl ?_)))
 refine AW.skip (AW.sg hE rfl (ldPA ag.Auto rfl rfl (vs:=[_,_,_,_,_,_,_]) rfl (nb9 rfl) (ldPA ag.Auto rfl rfl (vs:=[_,_,_,_,_,_,_]) rfl (nb9 rfl) (clv rfl vL (r23difference t.fit t2.fit u) (clv rfl vL (r23zero fd) ?_)))))
 rw [diff_first t.fit.ok t2.fit.ok (t.fit.sym.trans t2.fit.sym.symm)]
 refine mvT rfl (ex rfl rfl (ex rfl rfl (asD rfl (asD rfl (OL.nil (AW.sg hE rfl (mvD rfl ?_)))))))
 exact mvD rfl (asD rfl (asD rfl (asD rfl (OL.nil (AW.ret (RetQ.r ⟨_,.tmp rfl (.tmp rfl (.tmp rfl .nil)),_,.cons (.le vR) (.cons (.le vR) (.cons (.le vR) .nil)),rfl⟩))))))
end Go.Proofs.YtmcoihfkniccdaaGreatDoor
namespace Go.AL
open Go Go.BigFrame
def aw24:Au:=⟨1,2,[1,0],[0,1],[⟨0,1,0,1⟩,⟨0,1,1,1⟩,⟨1,1,1,1⟩]⟩
theorem aw_ok:aw24.Ok:=⟨by decide,rfl,rfl,fun x hx=>by
 simp only [aw24,List.mem_cons,List.not_mem_nil,or_false] at hx
 rcases hx with rfl|rfl|rfl <;> exact ⟨by decide,by decide,by decide,by decide⟩⟩
theorem aw_sz:aw24.Sz 1 10:=by
 have z1:sz 1≤1:=by rw [sz_one];decide
 have z0:sz 0≤1:=by rw [sz_zero];decide
 refine ⟨fun q hq=>?_,fun q hq=>?_,fun x hx=>?_,by decide⟩
 ·simp only [aw24,List.mem_cons,List.not_mem_nil,or_false] at hq
  rcases hq with rfl|rfl
  ·exact z1
  ·exact z0
 ·simp only [aw24,List.mem_cons,List.not_mem_nil,or_false] at hq
  rcases hq with rfl|rfl
  ·exact z0
  ·exact z1
 ·simp only [aw24,List.mem_cons,List.not_mem_nil,or_false] at hx
  rcases hx with rfl|rfl|rfl <;> exact z1
theorem run3 {m:Mach}{B:Nat}(ok:m.Ok)(hk:m.k=1)(h1:1≤B)(g:List Int→KSt→Bool × KSt)(e:∀ w,InW 1 w→∀ y,keepB m w y=g w y)(hz:∀ w,InW 1 w→w.length≤2→∀ i,sz ((vecM m w).getD i 0)≤B)
  (g1:(g [] ⟨[],[]⟩).1=true) (g2:(g [1] (g [] ⟨[],[]⟩).2).1=true) (g3:(g [1,1] (g [1] (g [] ⟨[],[]⟩).2).2).1=false):InvS m B [] (g [1,1] (g [1] (g [] ⟨[],[]⟩).2).2).2:=by
 have w0:InW 1 []:=fun x hx=>by cases hx
 have w1:InW 1 [1]:=fun x hx=>by rw [ms9 hx];decide
 have w2:InW 1 [1,1]:=fun x hx=>by
  simp only [List.mem_cons,List.not_mem_nil,or_false] at hx
  rcases hx with rfl|rfl <;> decide
 have s1:=((InvS.start m B).next ok h1 (hz [] w0 (by decide))).1 (by rw [e _ w0];exact g1)
 rw [e _ w0,hk,show ([]:List (List Int))++kidsW 1 []=[[1]] from by decide] at s1
 have s2:=(s1.1.next ok h1 (hz [1] w1 (by decide))).1 (by rw [e _ w1];exact g2)
 rw [e _ w1,hk,show ([]:List (List Int))++kidsW 1 [1]=[[1,1]] from by decide] at s2
 have s3:=(s2.1.next ok h1 (hz [1,1] w2 (by decide))).2 (by rw [e _ w2];exact g3)
 rw [e _ w2] at s3
 exact s3.1
def keepV (f:List Int→List Rat)(w:List Int)(y:KSt):Bool × KSt:=if growsS y.rs (f w)=true then (true,⟨y.ks++[w],y.rs++[newR y.rs (f w)]⟩) else (false,y)
theorem aw_k:(machL [aw24]).k=1:=k_one
theorem aw_L {e:Nat}(z:(machL [aw24]).Sz e)(ok:(machL [aw24]).Ok):∃ y,InvS (turnM (machL [aw24])) 16777215 [] y∧y.ks=[[],[1]] :=
 ⟨_,run3 (turn_ok ok) (turn_k.trans aw_k) (by decide) (keepB (turnM (machL [aw24]))) (fun _ _ _=>rfl) (fun w _ hw i=>Nat.le_trans (vecM_sz z.turn (Nat.le_trans hw (by decide)) i) (by decide)) (by decide +kernel) (by decide +kernel) (by decide +kernel),by decide +kernel⟩
theorem aw_K {e:Nat}(z:(machL [aw24]).Sz e)(ok:(machL [aw24]).Ok):basK (turnM (machL [aw24]))=[[],[1]]∧preM (machL [aw24])=[[],[1]]∧rkA aw24=2:=by
 obtain ⟨y,hy,hk⟩:=aw_L z ok
 have hb:basK (turnM (machL [aw24]))=[[],[1]]:=by rw [← hy.bas,hk]
 obtain ⟨mv,v⟩:=view_of ok hy
 have hL:∀ l,l ∈ basK (turnM (machL [aw24]))→l.length≤3:=fun l hl=>by
  rw [hb] at hl
  simp only [List.mem_cons,List.not_mem_nil,or_false] at hl
  rcases hl with rfl|rfl <;> decide
 have r:InvS mv 16777215 [] (keepV (viewM (machL [aw24]) [[],[1]]) [1,1] (keepV (viewM (machL [aw24]) [[],[1]]) [1] (keepV (viewM (machL [aw24]) [[],[1]]) [] ⟨[],[]⟩).2).2).2 :=
  run3 v.ok (v.k.trans aw_k) (by decide) (keepV (viewM (machL [aw24]) [[],[1]])) (fun w hw y=>by unfold keepB keepV;rw [v.vec w (by rw [aw_k];exact hw),hb])
   (fun w hw h2 i=>by rw [v.vec w (by rw [aw_k];exact hw)];exact Nat.le_trans (view_sz3 z (Nat.le_succ_of_le h2) hL i) (by decide)) (by decide +kernel) (by decide +kernel) (by decide +kernel)
 have hp:=preM_eq (hy.first ok v r)
 have hr:=hy.rank ok v r
 refine ⟨hb,by rw [hp];decide +kernel,?_⟩
 rw [aw_k] at hr
 exact hr.symm.trans (by decide +kernel)
theorem aw_arcs {e:Nat}(z:(machL [aw24]).Sz e)(ok:(machL [aw24]).Ok):tidyA (tidyA (arcN (machL [aw24]) (preM (machL [aw24]))))=[⟨0,1,1,1⟩,⟨1,1,0,-1⟩,⟨1,1,1,2⟩]:=by
 obtain ⟨h1,h2,_⟩:=aw_K z ok
 unfold arcN arcI arcS arcJ coefN
 rw [h1,h2]
 have h:∀ {a b:List Arc9},a.length=b.length→(a.map fun x=>(x.f,x.l,x.t,x.q))=(b.map fun x=>(x.f,x.l,x.t,x.q))→a=b:=by
  intro a
  induction a with
  | nil=>intro b hl _;cases b with
   | nil=>rfl
   | cons=>cases hl
  | cons x a ih => intro b hl he; cases b with
   | nil=>cases hl
   | cons y b =>
    rw [List.map_cons,List.map_cons] at he
    obtain ⟨e1,e2⟩:=List.cons.inj he
    rw [ih (Nat.succ.inj hl) e2]
    cases x;cases y
    simp only [Prod.mk.injEq] at e1
    obtain ⟨rfl,rfl,rfl,rfl⟩:=e1
    rfl
 exact h (by decide +kernel) (by decide +kernel)
section
variable {k n B l i:Nat}{f:List Int→List Rat}{Lv kept K:List (List Int)}{rs:List SRow}{m:Mach}{e:Nat}
theorem lev_short (h:SufI k n B f l Lv i kept K rs)(hi:i<Lv.length):(Lv.getD i []).length≤n:=by
 have hm:Lv.getD i [] ∈ Lv:=getD_mem hi []
 have h1:=h.s.sp.le
 have h2:=h.s.len
 cases hc:Lv.getD i [] with
 | nil=>exact Nat.zero_le _
 | cons s u =>
  have h3:=h.lv.tail _ hm s u hc
  have h4:=short_words h.s.ord (fun u hu hne=>by
   cases u with
   | nil=>exact absurd rfl hne
   | cons s u=>exact ⟨u,h.s.tail s u hu,rfl⟩) u h3
  rw [List.length_cons]
  omega
theorem level_ex (h1:1≤B)(hfl:∀ w,(f w).length=n)(hz:∀ w,InW k w→w.length≤n→∀ j,sz ((f w).getD j 0)≤B):∀ (d i:Nat) (kept K:List (List Int)) (rs:List SRow),i+d=Lv.length→SufI k n B f l Lv i kept K rs →
  ∃ kept' K' rs',SufI k n B f l Lv Lv.length kept' K' rs' ∧ K'.length+kept.length=K.length+kept'.length
 | 0,i,kept,K,rs,hd,h=>⟨kept,K,rs,by rw [← hd];exact h,rfl⟩
 | d + 1, i, kept, K, rs, hd, h => by
  have hi:i<Lv.length:=by omega
  have hc:=hz _ (h.lv.inW _ (getD_mem hi [])) (lev_short h hi)
  by_cases hg:growsS rs (f (Lv.getD i []))=true
  ·obtain ⟨k2,K2,r2,s,e⟩:=level_ex h1 hfl hz d (i+1) _ _ _ (by omega) (h.yes hi (hfl _) h1 hc hg)
   refine ⟨k2,K2,r2,s,?_⟩
   rw [la9,la9] at e
   simp only [ls9] at e
   omega
  ·exact level_ex h1 hfl hz d (i+1) _ _ _ (by omega) (h.no hi (hfl _) (by simpa using hg))
theorem levels_ex (h1:1≤B)(hfl:∀ w,(f w).length=n)(hz:∀ w,InW k w→w.length≤n→∀ j,sz ((f w).getD j 0)≤B)(hf:StepF k n f):∀ (N l:Nat) (Lv K:List (List Int)) (rs:List SRow),n-K.length≤N→SufO k n B f l Lv K rs→∃ l' K' rs',SufO k n B f l' [] K' rs'
 | N, l, Lv, K, rs, hN, h => by
  obtain ⟨k2,K2,r2,s,e⟩:=level_ex h1 hfl hz Lv.length 0 [] K rs (by omega) h.begin
  have hd:=s.done hf
  cases hk:k2 with
  | nil =>
   rw [hk,show levelW k []=[] by unfold levelW;simp] at hd
   exact ⟨_,_,_,hd⟩
  | cons x t =>
   have h2:=s.s.sp.le
   have h3:=s.s.len
   rw [hk] at e
   simp only [List.length_nil,List.length_cons] at e
   match N,hN with
   | 0,hN=>omega
   | N+1,hN=>exact levels_ex h1 hfl hz hf N _ _ _ _ (by omega) hd
theorem view_sz6 {L:List (List Int)}{u:List Int}(z:m.Sz e)(hu:u.length≤6)(hL:∀ l,l ∈ L→l.length≤6)(i:Nat):sz ((viewM m L u).getD i 0)≤69177619:=by
 rcases Nat.lt_or_ge i L.length with hi|hi
 ·rw [view_get hi]
  have h:=dot_sz (n:=m.n) z.n6 (u:=vf (vecM m u)) (v:=vf (vecM (turnM m) (L.getD i []))) (fun i=>vecM_sz z hu i) (fun i=>vecM_sz z.turn (hL _ (getD_mem hi [])) i)
  exact Nat.le_trans h (by omega)
 ·rw [getD_outQ (by rw [view_len];exact hi),sz_zero];decide
theorem bas_ex (ok:m.Ok)(z:m.Sz e):∃ y,InvS m 69177619 [] y∧y.ks=basK m:=invS_ex ok z.n6 (by decide) fun _ _ h6 i=>Nat.le_trans (vecM_sz z h6 i) (by decide)
theorem bas_short (ok:m.Ok)(z:m.Sz e):∀ l,l ∈ basK m→l.length<m.n:=fun l hl=>by
 obtain ⟨y,hy,e⟩:=bas_ex ok z
 have h1:=hy.short l (by rw [e];exact hl)
 have h2:=hy.b.few.2
 omega
theorem suf_ex (ok:m.Ok)(z:m.Sz e)(hk:1≤m.k):SufK m (sufM m):=by
 have ok2:=turn_ok (turn_ok ok)
 obtain ⟨y,hy,hb⟩:=bas_ex ok2 z.turn.turn
 have hf:=stepF_col ok hy
 have hs:=bas_short ok2 z.turn.turn
 have hn:(basK (turnM (turnM m))).length≤m.n:=by rw [← hb];exact hy.b.few.2
 have hm6:=z.n6
 obtain ⟨l',K',rs',s⟩:=levels_ex (k:=m.k) (B:=69177619) (f:=colW m) (by decide) (fun w=>view_len)
  (fun w hw hl j=>view_sz6 z.turn (by rw [List.length_reverse];omega) (fun l hl=>by have h1:l.length<m.n:=hs l hl;omega) j) hf _ 0 [[]] [] [] (Nat.le_refl _) SufO.start
 have h:=SufO.fin ok hk hy s
 rw [sufM_eq h];exact h
structure PreK (m:Mach) (K:List (List Int)):Prop where
 first:FirstI m.k (fun u l=>wtM m (u++l)) K
 init:∀ u,u ∈ K→u≠[]→u.dropLast ∈ K
 rank:K.length=rankF m.k (wtM m)
 short:∀ u,u ∈ K→u.length<K.length
theorem pre_ex (ok:m.Ok)(z:m.Sz e):PreK m (preM m)∧(preM m).length≤m.n:=by
 obtain ⟨y,hy,hb⟩:=bas_ex (turn_ok ok) z.turn
 obtain ⟨mv,v⟩:=view_of ok hy
 have hs:=bas_short (turn_ok ok) z.turn
 have hm6:=z.n6
 have hn:(basK (turnM m)).length≤m.n:=by rw [← hb];exact hy.b.few.2
 obtain ⟨x,hx,_⟩:=invS_ex (m:=mv) (B:=69177619) v.ok (by rw [v.n];omega) (by decide) fun w hw h6 i=>by
  rw [v.vec w (by rw [← v.k];exact hw)]
  exact view_sz6 z h6 (fun l hl=>by have h1:l.length<m.n:=hs l hl;omega) i
 have hf:=hy.first ok v hx
 rw [preM_eq hf]
 have h2:=hx.b.few.2
 rw [v.n] at h2
 exact ⟨⟨hf,fun u hu hne=>hx.closed hu hne,hy.rank ok v hx,hx.short⟩,Nat.le_trans h2 hn⟩
theorem FirstI.lt {h:List Int→List Int→Rat}(f:FirstI k h K){j:Nat}(hj:j<K.length)(h0:0<j):slx (K.getD (j-1) []) (K.getD j [])<0:=by
 have h1:=List.pairwise_iff_getElem.1 f.ord (j-1) j (by omega) hj (by omega)
 rw [gd9,gd9,ge9 (by omega),ge9 hj]
 exact h1
end
end Go.AL
namespace Go.Proofs.YtmcoihfkniccdaaGreatDoor
open Go Go.AL
theorem lt3 {m:Nat}{ops:Array Oper}{K:S→Prop}{s:S}{dst:Option Nat}{ty:Nat}{pos:String}{after:Array Edge}{r:List Oper}{t e sz by_:Nat}{x x2 x3:Operand}{y y2 y3:D}(hT:SliceT P t e sz by_)(hx:VD (s.ev x) y)(hx2:VD (s.ev x2) y2)(hx3:VD (s.ev x3) y3)(hs:y.cells.length=sz∧y2.cells.length=sz∧y3.cells.length=sz)(h24:sz≤4194304)(h:OL P m ops K r (s.put dst (.d (.sl [y,y2,y3])))):OL P m ops K (⟨dst,.buildSlice t 3 #[(0,x),(1,x2),(2,x3)],ty,pos,after,none⟩ :: r) s:=OL.puren (.litD (xs:=[y,y2,y3]) hT rfl rfl (by omega) (by omega) (fun i p z hp hz=>by
 match i,hp,hz with
 | 0,hp,hz=>simp at hp hz;subst hp hz;exact hx
 | 1,hp,hz=>simp at hp hz;subst hp hz;exact hx2
 | 2,hp,hz=>simp at hp hz;subst hp hz;exact hx3
 | i+3,hp,hz=>simp at hp) (fun z hz=>by simp at hz;rcases hz with rfl|rfl|rfl;exact hs.1;exact hs.2.1;exact hs.2.2)) h
theorem vd_w0m:VD (.ag [.d (dB false),.mt,.mt,.d (dI 0),.d (dB false),.d (dU 0),.mt,.mt]) (dW 0):=by
 have e:dW 0=.ag [dB false,.sl [],.sl [],dI 0,dB false,dU 0,.sl [],.sl []]:=by unfold dW;rw [ofQ_zero];rfl
 rw [e]
 exact VD.ag (.cons (VC.d _) (.cons VC.mt (.cons VC.mt (.cons (VC.d _) (.cons (VC.d _) (.cons (VC.d _) (.cons VC.mt (.cons VC.mt .nil))))))))
theorem take_aw:Au.Take aw24 1:=⟨⟨aw_ok,aw_sz.wide,rfl,(show 1≤32 by decide),(show 2≤64 by decide)⟩,aw_sz.few (show 2≤6 by decide),(show 1≤2 by decide)⟩
theorem MinimalAw:FSpec P F.minimal_Minimal [vAu aw24] (.tup [vAu ⟨1,2,[1,0],[serA aw24 [],serA aw24 [1]],[⟨0,1,1,1⟩,⟨1,1,0,-1⟩,⟨1,1,1,2⟩]⟩,.d (dI 0)]):=by
 obtain ⟨ok,_,z6,_⟩:=mach1 take_aw (by decide)
 obtain ⟨_,h2,h3⟩:=aw_K z6 ok
 have h:=MinimalA take_aw (by decide) (by decide) (by decide) (by rw [h3];decide)
 rw [aw_arcs z6 ok,h2] at h
 exact h
theorem sz_m1q:sz (-1)≤68719476736:=by rw [sz_neg,sz_one];decide
theorem sz_2q:sz 2≤68719476736:=by
 have h:=sz_add 1 1
 rw [sz_one,show (1:Rat)+1=2 by decide +kernel] at h
 exact Nat.le_trans h (by decide)
theorem two_r:((2:Int):Rat) / ((1:Int):Rat)=2:=by decide +kernel
theorem one_r:((1:Int):Rat) / ((1:Int):Rat)=1:=by decide +kernel
theorem sameT {p:Rat}(hp:sz p≤68719476736):FSpec P F.ref01_Same [vQ p,vQ p] (.d (dB true)):=by
 have h:=ref_SameQ (p:=p) (q:=p) hp hp
 rwa [decide_eq_true rfl] at h
theorem max3 (m:MModel):(autoOf m 2 3).st≤3:=auto3.2
structure Wds (m:MModel):Prop where
 pk:PreK (machL [autoOf m 2 3]) (preM (machL [autoOf m 2 3]))
 sk:SufK (machL [autoOf m 2 3]) (sufM (machL [autoOf m 2 3]))
 pl:(preM (machL [autoOf m 2 3])).length=rkA (autoOf m 2 3)
 sl:(sufM (machL [autoOf m 2 3])).length=rkA (autoOf m 2 3)
 r3:rkA (autoOf m 2 3)≤3
theorem wds (m:MModel):Wds m:=by
 obtain ⟨ok,_,z6,hn⟩:=mach1 (take_auto (m:=m)) (by decide)
 obtain ⟨pk,pn⟩:=pre_ex ok z6
 have sk:=suf_ex ok z6 (by rw [k_one];exact (show 1≤2 by decide))
 have pl:(preM (machL [autoOf m 2 3])).length=rkA (autoOf m 2 3):=by rw [pk.rank,k_one];rfl
 have sl:(sufM (machL [autoOf m 2 3])).length=rkA (autoOf m 2 3):=by rw [sk.rank,k_one];rfl
 have:=max3 m
 exact ⟨pk,sk,pl,sl,by omega⟩
theorem law24_ring  : FSpec P F.law24_ring [] (vRing):=by
 refine FSpec.intro fn.law24_ring (by rfl) (by rfl) (nb9 (by rfl)) fun E hE=>(AW.sg hE rfl (al z.Ring rfl fun b0=>(OL.nil (AW.sg hE rfl (bd z.Ring pl.Ring (cs:=[_,_]) rfl (sto sz.Ring rfl rfl rfl rfl rfl (nb9 rfl) (cells2:=[_,_]) rfl (OL.nil ?_)))))))
 exact AW.ret (RetQ.r ⟨_,.cellA rfl rfl ag.Ring (nb9 rfl) .nil,.ag (.cons (.le vR) (.cons (.le (VLe.mt)) .nil))⟩)
theorem law24_plain {m:MModel}{e:Bool}(n1:m.ini.length≤9223372036854775807)(n2:m.fin.length≤9223372036854775807)(n3:m.arcs.length≤9223372036854775807):FSpec P F.law24_plain [vModelE m e] (vAu (autoOf m 2 3)):=by
 refine FSpec.intro fn.law24_plain (by rfl) (by rfl) (nb9 (by rfl)) fun E hE=>(AW.sg hE rfl (bxA rfl rfl fun b1=>(al z.Auto rfl fun b2=>(OL.nil (AW.sg hE rfl (faP fd.Model_4 rfl rfl (sto sz.bool rfl rfl rfl rfl rfl (nb9 rfl) (cells2:=[_,_,_,_,_]) rfl ?_)))))))
 refine OL.nil (AW.seq (AW.dg 1 [0,1,2,3] order_free hE rfl (by kernel_rfl) (OI.of_OL (os:=[_,_,_,_]) rfl ?_)))
 exact ldPA ag.Model rfl rfl (vs:=[_,_,_,_,_]) rfl (nb9 rfl) (clv rfl (.nil) (law24_ring) (clv rfl vL (AutoI (m:=m) (sym:=2) (most:=3) (by decide) (by decide) n1 n2 n3) (sto sz.Auto rfl rfl rfl rfl rfl (nb9 rfl) (cells2:=[_,_,_,_,_,_,_]) rfl (OL.nil (AW.ret (RetQ.r ⟨_,.cellA rfl rfl ag.Auto (nb9 rfl) .nil,.ag (.cons (.le vR) (.cons (.le vR) (.cons (.le vR) (.cons (.le vR) (.cons (.le vR) (.cons (.le vR) (.cons (.le vR) .nil)))))))⟩))))))
theorem law24_q11  : FSpec P F.law24_q [.d (dI 1),.d (dI 1)] (vW 1):=by
 refine FSpec.intro fn.law24_q (by rfl) (by rfl) (nb9 (by rfl)) fun E hE=>(AW.sg hE rfl (al z.Weight rfl fun b4=>(OL.nil (AW.sg hE rfl (mvD rfl (mvD rfl (clv rfl vL (ref_OfQ (n:=1) (d:=1) (by decide) (by decide) (by decide)) ?_)))))))
 rw [one_r]
 exact bd z.Weight pl.Weight (cs:=[_,_,_,_,_,_,_,_]) rfl (sto sz.Weight rfl rfl rfl rfl rfl (nb9 rfl) (cells2:=[_,_,_,_,_,_,_,_]) rfl (OL.nil (AW.ret (RetQ.r ⟨_,.cellA rfl rfl ag.Weight (nb9 rfl) .nil,.le vle_wq⟩))))
set_option maxRecDepth 8000 in
set_option maxHeartbeats 1600000 in
theorem law24_awake  : FSpec P F.law24_awake [] (.d (dB true)):=by
 refine FSpec.intro fn.law24_awake (by rfl) (by rfl) (nb9 (by rfl)) fun E hE=>(AW.sg hE rfl (asD rfl (OL.nil (AW.sg hE rfl (clv rfl (.nil) (law24_ring) (clv rfl vL (law24_q11) (bd z.Weight pl.Weight (cs:=[_,_,_,_,_,_,_,_]) rfl ?_)))))))
 refine lt2 (y:=dW 1) (y2:=dW 0) sl.Weights vd_w vd_w0m ⟨rfl,rfl⟩ (by decide) (bd z.Weight pl.Weight (cs:=[_,_,_,_,_,_,_,_]) rfl (clv rfl vL (law24_q11) (lt2 (y:=dW 0) (y2:=dW 1) sl.Weights vd_w0m vd_w ⟨rfl,rfl⟩ (by decide) (clv rfl vL (law24_q11) (bd2 (cs:=[_,_,_,_,_,_,_,_,_,_,_]) z.Arc pl.Arc (pvC (by exact evD rfl) (pvC (by exact evD rfl) (pvC (by exact evD rfl) (pvC (by exact evA rfl) (pvN))))) (by rfl) (clv rfl vL (law24_q11) ?_))))))
 refine bd2 (cs:=[_,_,_,_,_,_,_,_,_,_,_]) z.Arc pl.Arc (pvC (by exact evD rfl) (pvC (by exact evD rfl) (pvC (by exact evD rfl) (pvC (by exact evA rfl) (pvN))))) (by rfl) (clv rfl vL (law24_q11) (bd2 (cs:=[_,_,_,_,_,_,_,_,_,_,_]) z.Arc pl.Arc (pvC (by exact evD rfl) (pvC (by exact evD rfl) (pvC (by exact evD rfl) (pvC (by exact evA rfl) (pvN))))) (by rfl) (lt3 (y:=dArc ⟨0,1,0,1⟩) (y2:=dArc ⟨0,1,1,1⟩) (y3:=dArc ⟨1,1,1,1⟩) sl.Arcs (vd_arc (x:=⟨0,1,0,1⟩)) (vd_arc (x:=⟨0,1,1,1⟩)) (vd_arc (x:=⟨1,1,1,1⟩)) ⟨rfl,rfl,rfl⟩ (by decide) ?_)))
 refine bd2 (cs:=[_,_,_,_,_,_,_]) z.Auto pl.Auto (pvC (by exact evA rfl) (pvC (by exact evD rfl) (pvC (by exact evD rfl) (pvC (by exact evD rfl) (pvC (by exact evD rfl) (pvC (by exact evD rfl) (pvN))))))) (by rfl) (al z.Auto rfl fun b1=>(sto sz.Auto rfl rfl rfl rfl rfl (nb9 rfl) (cells2:=[_,_,_,_,_,_,_]) rfl (OL.nil (AW.sg hE rfl (ldPA ag.Auto rfl rfl (vs:=[_,_,_,_,_,_,_]) rfl (nb9 rfl) (clv rfl vL (MinimalAw) (mvT rfl ?_)))))))
 refine ex rfl rfl (ex rfl rfl (al z.Auto rfl fun b2=>(sto sz.Auto rfl rfl rfl rfl rfl (nb9 rfl) (cells2:=[_,_,_,_,_,_,_]) rfl (asD rfl (OL.nil (AW.seq (AW.dg 1 [0,1,2,3,4,5,6,7,8,9,10,11,12,13,14,15,16,17,18,19,20,21,22,23,24,25,26,27,28,29,30,31,32,33] order_free hE rfl (by kernel_rfl) (OI.of_OL (os:=[_,_,_,_,_,_,_,_,_,_,_,_,_,_,_,_,_,_,_,_,_,_,_,_,_,_,_,_,_,_,_,_,_,_]) rfl ?_))))))))
 refine mvD rfl (c_eql rfl rfl (c:=true) (decide_eq_true rfl) (mvD rfl (OL.yes rfl (faP fd.Auto_2 rfl rfl (OL.yes rfl (ldPC ce.int rfl rfl rfl (OL.yes rfl ?_)))))))
 refine c_eql rfl rfl (c:=true) (decide_eq_true rfl) (pkT rfl rfl (mvD rfl (OL.yes rfl (faP fd.Auto_5 rfl rfl (OL.yes rfl (ldPC ce.Arcs rfl rfl rfl (OL.yes rfl ?_)))))))
 refine lnL sl.Arcs rfl rfl (OL.yes rfl (c_eql rfl rfl (c:=true) (decide_eq_true rfl) (pkT rfl rfl (mvD rfl (OL.yes rfl (faP fd.Auto_5 rfl rfl (OL.yes rfl ?_)))))))
 refine ldPC ce.Arcs rfl rfl rfl (OL.yes rfl (ixLn (i:=1) sl.Arcs default rfl rfl (by decide) rfl rfl (OL.yes rfl (faR fd.Arc_3 rfl rfl (OL.yes rfl (faR fd.Weight_0 rfl rfl (OL.yes rfl ?_)))))))
 refine ldRA ag.Rat rfl (vs:=[_,_,_]) rfl (nb9 rfl) (OL.yes rfl (clv rfl vL (ref_OfQ (n:=-1) (d:=1) (by decide) (by decide) (by decide)) ?_))
 rw [neg1_r]
 refine OL.yes rfl (clv rfl vL (sameT (p:=-1) sz_m1q) (pkT rfl rfl (mvD rfl (OL.yes rfl (faP fd.Auto_5 rfl rfl (OL.yes rfl (ldPC ce.Arcs rfl rfl rfl ?_)))))))
 refine OL.yes rfl (ixLn (i:=2) sl.Arcs default rfl rfl (by decide) rfl rfl (OL.yes rfl (faR fd.Arc_3 rfl rfl (OL.yes rfl (faR fd.Weight_0 rfl rfl (OL.yes rfl (ldRA ag.Rat rfl (vs:=[_,_,_]) rfl (nb9 rfl) ?_)))))))
 refine OL.yes rfl (clv rfl vL (ref_OfQ (n:=2) (d:=1) (by decide) (by decide) (by decide)) ?_)
 rw [two_r]
 exact OL.yes rfl (clv rfl vL (sameT (p:=2) sz_2q) (pkT rfl rfl (asD rfl (OL.nil (AW.ret (RetQ.r ⟨_,.tmp rfl .nil,.le vR⟩))))))
end Go.Proofs.YtmcoihfkniccdaaGreatDoor
