/-
  M, chapter 24: the words of the prefixes and of the suffixes: that they are there, and what is true of them.
-/
import Derived.Test.YtfbblpngcmjooaaGreatDoorKAlg43
import Derived.Test.YtfbblpngcmjooaaGreatDoorKMod102
import Derived.Test.YtfbblpngcmjooaaGreatDoorKMod105
set_option linter.unusedVariables false
set_option linter.unusedSimpArgs false
namespace Go.AL
open Go Go.BigFrame
section
variable {P:Program}{E:Env}
theorem SG.ofOL {ops:Array Oper}{o:Oper}{K:S→Prop}{s:S}(h:OL P 0 ops K [o] s):SG P E ops o K s:=.inl h
theorem SG.ofSO {ops:Array Oper}{dst:Option Nat}{op:Op}{ty:TypeId}{pos:String}{after:Array Edge}{K:S→Prop}{s:S}(h:SO P E ⟨dst,op,ty,pos,after,none⟩ K s):SG P E ops ⟨dst,op,ty,pos,after,none⟩ K s:=.inr ⟨rfl,h⟩
def OTK (P:Program)(E:Env)(ops:Array Oper)(K:S→Prop):Nat→Array Bool→S→Prop
 | 0,listed,s=>Region.ready .any ops listed=[]∧K s
 | n+1,listed,s=>Region.ready .any ops listed≠[]∧∀ i,i ∈ Region.ready .any ops listed→∃ o,ops[i]? = some o∧SG P E ops o (OTK P E ops K n (listed.setIfInBounds i true)) s
def OTKs (P:Program)(E:Env)(ops:Array Oper)(K:S→Prop)(n:Nat)(listed:Array Bool)(s:S):List Nat→List Oper→Prop
 | [],[]=>True
 | i::l,o::os=>SG P E ops o (OTK P E ops K n (listed.setIfInBounds i true)) s∧OTKs P E ops K n listed s l os
 | _,_=>False
theorem OTKs.get {ops:Array Oper}{K:S→Prop}{n:Nat}{listed:Array Bool}{s:S}:∀ (l:List Nat) (os:List Oper),l.map (fun i=>ops[i]?)=os.map some→OTKs P E ops K n listed s l os→∀ i,i ∈ l→∃ o,ops[i]? = some o∧SG P E ops o (OTK P E ops K n (listed.setIfInBounds i true)) s
 | [],_,_,_,i,hi=>by simp at hi
 | j::l,[],h,_,_,_=>by simp at h
 | j::l,o::os,h,ht,i,hi=>by
  simp only [List.map_cons,List.cons.injEq] at h
  rcases List.mem_cons.1 hi with rfl|hi
  ·exact ⟨o,h.1,ht.1⟩
  ·exact OTKs.get l os h.2 ht.2 i hi
end
end Go.AL
namespace Go.Proofs.YtfbblpngcmjooaaGreatDoor
open Go Go.AL
theorem neg1_r:((-1:Int):Rat) / ((1:Int):Rat) = -1:=by decide +kernel
theorem auto3 {m:MModel}:1≤(autoOf m 2 3).st∧(autoOf m 2 3).st≤3:=stOf_le (m:=m) (most:=3) (by decide)
theorem wt_auto3 {m:MModel}:Au.Wt (autoOf m 2 3):=⟨take_auto.fit.ok,auto_sz,(show 2≤32 by decide),take_auto.fit.st⟩
theorem fw_auto {m:MModel}:(autoOf m 2 3).Fw :=
 ⟨take_auto.fit.ok,take_auto.few,(show 2≤4 by decide),auto3.1,fun x hx=>Nat.le_trans (auto_sz.arc x hx) (by decide),Nat.le_trans auto_sz.num (by decide)⟩
theorem rk_auto {m:MModel}:Au.Rk (autoOf m 2 3) 2 :=
 ⟨take_auto,wt_auto3,by decide,auto_sz.rev.up (by decide) (by decide),fw_auto,form_fw take_auto.fit.ok auto_sz (show 2≤4 by decide) auto3.1 (Nat.le_trans auto3.2 (by decide)),rev_fw take_auto.fit.ok auto_sz (show 2≤4 by decide) auto3.1 (Nat.le_trans auto3.2 (by decide))⟩
end Go.Proofs.YtfbblpngcmjooaaGreatDoor
namespace Go.AL
open Go Go.BigFrame
def aw24:Au:=⟨1,2,[1,0],[0,1],[⟨0,1,0,1⟩,⟨0,1,1,1⟩,⟨1,1,1,1⟩]⟩
theorem aw_ok:aw24.Ok:=⟨by decide,rfl,rfl,fun x hx=>by
 simp only [aw24,List.mem_cons,List.not_mem_nil,or_false] at hx
 rcases hx with rfl|rfl|rfl <;> exact ⟨by decide,by decide,by decide,by decide⟩⟩
theorem aw_sz:aw24.Sz 1 10:=by
 have z1:sz 1≤1:=by rw [sz_one];decide
 have z0:sz 0≤1:=by rw [sz_zero];decide
 refine ⟨fun q hq=>?_,fun q hq=>?_,fun x hx=>?_,by decide⟩
 ·simp only [aw24,List.mem_cons,List.not_mem_nil,or_false] at hq
  rcases hq with rfl|rfl
  ·exact z1
  ·exact z0
 ·simp only [aw24,List.mem_cons,List.not_mem_nil,or_false] at hq
  rcases hq with rfl|rfl
  ·exact z0
  ·exact z1
 ·simp only [aw24,List.mem_cons,List.not_mem_nil,or_false] at hx
  rcases hx with rfl|rfl|rfl <;> exact z1
theorem run3 {m:Mach}{B:Nat}(ok:m.Ok)(hk:m.k=1)(h1:1≤B)(g:List Int→KSt→Bool × KSt)(e:∀ w,InW 1 w→∀ y,keepB m w y=g w y)(hz:∀ w,InW 1 w→w.length≤2→∀ i,sz ((vecM m w).getD i 0)≤B)
  (g1:(g [] ⟨[],[]⟩).1=true) (g2:(g [1] (g [] ⟨[],[]⟩).2).1=true) (g3:(g [1,1] (g [1] (g [] ⟨[],[]⟩).2).2).1=false):InvS m B [] (g [1,1] (g [1] (g [] ⟨[],[]⟩).2).2).2:=by
 have w0:InW 1 []:=fun x hx=>by cases hx
 have w1:InW 1 [1]:=fun x hx=>by rw [List.mem_singleton.1 hx];decide
 have w2:InW 1 [1,1]:=fun x hx=>by
  simp only [List.mem_cons,List.not_mem_nil,or_false] at hx
  rcases hx with rfl|rfl <;> decide
 have s1:=((InvS.start m B).next ok h1 (hz [] w0 (by decide))).1 (by rw [e _ w0];exact g1)
 rw [e _ w0,hk,show ([]:List (List Int))++kidsW 1 []=[[1]] from by decide] at s1
 have s2:=(s1.1.next ok h1 (hz [1] w1 (by decide))).1 (by rw [e _ w1];exact g2)
 rw [e _ w1,hk,show ([]:List (List Int))++kidsW 1 [1]=[[1,1]] from by decide] at s2
 have s3:=(s2.1.next ok h1 (hz [1,1] w2 (by decide))).2 (by rw [e _ w2];exact g3)
 rw [e _ w2] at s3
 exact s3.1
def keepV (f:List Int→List Rat)(w:List Int)(y:KSt):Bool × KSt:=if growsS y.rs (f w)=true then (true,⟨y.ks++[w],y.rs++[newR y.rs (f w)]⟩) else (false,y)
theorem aw_k:(machL [aw24]).k=1:=k_one
theorem aw_L {e:Nat}(z:(machL [aw24]).Sz e)(ok:(machL [aw24]).Ok):∃ y,InvS (turnM (machL [aw24])) 16777215 [] y∧y.ks=[[],[1]] :=
 ⟨_,run3 (turn_ok ok) (turn_k.trans aw_k) (by decide) (keepB (turnM (machL [aw24]))) (fun _ _ _=>rfl) (fun w _ hw i=>Nat.le_trans (vecM_sz z.turn (Nat.le_trans hw (by decide)) i) (by decide)) (by decide +kernel) (by decide +kernel) (by decide +kernel),by decide +kernel⟩
theorem aw_K {e:Nat}(z:(machL [aw24]).Sz e)(ok:(machL [aw24]).Ok):basK (turnM (machL [aw24]))=[[],[1]]∧preM (machL [aw24])=[[],[1]]∧rkA aw24=2:=by
 obtain ⟨y,hy,hk⟩:=aw_L z ok
 have hb:basK (turnM (machL [aw24]))=[[],[1]]:=by rw [← hy.bas,hk]
 obtain ⟨mv,v⟩:=view_of ok hy
 have hL:∀ l,l ∈ basK (turnM (machL [aw24]))→l.length≤3:=fun l hl=>by
  rw [hb] at hl
  simp only [List.mem_cons,List.not_mem_nil,or_false] at hl
  rcases hl with rfl|rfl <;> decide
 have r:InvS mv 16777215 [] (keepV (viewM (machL [aw24]) [[],[1]]) [1,1] (keepV (viewM (machL [aw24]) [[],[1]]) [1] (keepV (viewM (machL [aw24]) [[],[1]]) [] ⟨[],[]⟩).2).2).2 :=
  run3 v.ok (v.k.trans aw_k) (by decide) (keepV (viewM (machL [aw24]) [[],[1]])) (fun w hw y=>by unfold keepB keepV;rw [v.vec w (by rw [aw_k];exact hw),hb])
   (fun w hw h2 i=>by rw [v.vec w (by rw [aw_k];exact hw)];exact Nat.le_trans (view_sz3 z (Nat.le_succ_of_le h2) hL i) (by decide)) (by decide +kernel) (by decide +kernel) (by decide +kernel)
 have hp:=preM_eq (hy.first ok v r)
 have hr:=hy.rank ok v r
 refine ⟨hb,by rw [hp];decide +kernel,?_⟩
 rw [aw_k] at hr
 exact hr.symm.trans (by decide +kernel)
theorem aw_arcs {e:Nat}(z:(machL [aw24]).Sz e)(ok:(machL [aw24]).Ok):tidyA (tidyA (arcN (machL [aw24]) (preM (machL [aw24]))))=[⟨0,1,1,1⟩,⟨1,1,0,-1⟩,⟨1,1,1,2⟩]:=by
 obtain ⟨h1,h2,_⟩:=aw_K z ok
 unfold arcN arcI arcS arcJ coefN
 rw [h1,h2]
 have h:∀ {a b:List Arc9},a.length=b.length→(a.map fun x=>(x.f,x.l,x.t,x.q))=(b.map fun x=>(x.f,x.l,x.t,x.q))→a=b:=by
  intro a
  induction a with
  | nil=>intro b hl _;cases b with
   | nil=>rfl
   | cons=>cases hl
  | cons x a ih => intro b hl he; cases b with
   | nil=>cases hl
   | cons y b =>
    rw [List.map_cons,List.map_cons] at he
    obtain ⟨e1,e2⟩:=List.cons.inj he
    rw [ih (Nat.succ.inj hl) e2]
    cases x;cases y
    simp only [Prod.mk.injEq] at e1
    obtain ⟨rfl,rfl,rfl,rfl⟩:=e1
    rfl
 exact h (by decide +kernel) (by decide +kernel)
section
variable {k n B l i:Nat}{f:List Int→List Rat}{Lv kept K:List (List Int)}{rs:List SRow}{m:Mach}{e:Nat}
theorem lev_short (h:SufI k n B f l Lv i kept K rs)(hi:i<Lv.length):(Lv.getD i []).length≤n:=by
 have hm:Lv.getD i [] ∈ Lv:=getD_mem hi []
 have h1:=h.s.sp.le
 have h2:=h.s.len
 cases hc:Lv.getD i [] with
 | nil=>exact Nat.zero_le _
 | cons s u =>
  have h3:=h.lv.tail _ hm s u hc
  have h4:=short_words h.s.ord (fun u hu hne=>by
   cases u with
   | nil=>exact absurd rfl hne
   | cons s u=>exact ⟨u,h.s.tail s u hu,rfl⟩) u h3
  rw [List.length_cons]
  omega
theorem level_ex (h1:1≤B)(hfl:∀ w,(f w).length=n)(hz:∀ w,InW k w→w.length≤n→∀ j,sz ((f w).getD j 0)≤B):∀ (d i:Nat) (kept K:List (List Int)) (rs:List SRow),i+d=Lv.length→SufI k n B f l Lv i kept K rs →
  ∃ kept' K' rs',SufI k n B f l Lv Lv.length kept' K' rs' ∧ K'.length+kept.length=K.length+kept'.length
 | 0,i,kept,K,rs,hd,h=>⟨kept,K,rs,by rw [← hd];exact h,rfl⟩
 | d + 1, i, kept, K, rs, hd, h => by
  have hi:i<Lv.length:=by omega
  have hc:=hz _ (h.lv.inW _ (getD_mem hi [])) (lev_short h hi)
  by_cases hg:growsS rs (f (Lv.getD i []))=true
  ·obtain ⟨k2,K2,r2,s,e⟩:=level_ex h1 hfl hz d (i+1) _ _ _ (by omega) (h.yes hi (hfl _) h1 hc hg)
   refine ⟨k2,K2,r2,s,?_⟩
   rw [la9,la9] at e
   simp only [ls9] at e
   omega
  ·exact level_ex h1 hfl hz d (i+1) _ _ _ (by omega) (h.no hi (hfl _) (by simpa using hg))
theorem levels_ex (h1:1≤B)(hfl:∀ w,(f w).length=n)(hz:∀ w,InW k w→w.length≤n→∀ j,sz ((f w).getD j 0)≤B)(hf:StepF k n f):∀ (N l:Nat) (Lv K:List (List Int)) (rs:List SRow),n-K.length≤N→SufO k n B f l Lv K rs→∃ l' K' rs',SufO k n B f l' [] K' rs'
 | N, l, Lv, K, rs, hN, h => by
  obtain ⟨k2,K2,r2,s,e⟩:=level_ex h1 hfl hz Lv.length 0 [] K rs (by omega) h.begin
  have hd:=s.done hf
  cases hk:k2 with
  | nil =>
   rw [hk,show levelW k []=[] by unfold levelW;simp] at hd
   exact ⟨_,_,_,hd⟩
  | cons x t =>
   have h2:=s.s.sp.le
   have h3:=s.s.len
   rw [hk] at e
   simp only [List.length_nil,List.length_cons] at e
   match N,hN with
   | 0,hN=>omega
   | N+1,hN=>exact levels_ex h1 hfl hz hf N _ _ _ _ (by omega) hd
theorem view_sz6 {L:List (List Int)}{u:List Int}(z:m.Sz e)(hu:u.length≤6)(hL:∀ l,l ∈ L→l.length≤6)(i:Nat):sz ((viewM m L u).getD i 0)≤69177619:=by
 rcases Nat.lt_or_ge i L.length with hi|hi
 ·rw [view_get hi]
  have h:=dot_sz (n:=m.n) z.n6 (u:=vf (vecM m u)) (v:=vf (vecM (turnM m) (L.getD i []))) (fun i=>vecM_sz z hu i) (fun i=>vecM_sz z.turn (hL _ (getD_mem hi [])) i)
  exact Nat.le_trans h (by omega)
 ·rw [getD_outQ (by rw [view_len];exact hi),sz_zero];decide
theorem bas_ex (ok:m.Ok)(z:m.Sz e):∃ y,InvS m 69177619 [] y∧y.ks=basK m:=invS_ex ok z.n6 (by decide) fun _ _ h6 i=>Nat.le_trans (vecM_sz z h6 i) (by decide)
theorem bas_short (ok:m.Ok)(z:m.Sz e):∀ l,l ∈ basK m→l.length<m.n:=fun l hl=>by
 obtain ⟨y,hy,e⟩:=bas_ex ok z
 have h1:=hy.short l (by rw [e];exact hl)
 have h2:=hy.b.few.2
 omega
theorem suf_ex (ok:m.Ok)(z:m.Sz e)(hk:1≤m.k):SufK m (sufM m):=by
 have ok2:=turn_ok (turn_ok ok)
 obtain ⟨y,hy,hb⟩:=bas_ex ok2 z.turn.turn
 have hf:=stepF_col ok hy
 have hs:=bas_short ok2 z.turn.turn
 have hn:(basK (turnM (turnM m))).length≤m.n:=by rw [← hb];exact hy.b.few.2
 have hm6:=z.n6
 obtain ⟨l',K',rs',s⟩:=levels_ex (k:=m.k) (B:=69177619) (f:=colW m) (by decide) (fun w=>view_len)
  (fun w hw hl j=>view_sz6 z.turn (by rw [List.length_reverse];omega) (fun l hl=>by have h1:l.length<m.n:=hs l hl;omega) j) hf _ 0 [[]] [] [] (Nat.le_refl _) SufO.start
 have h:=SufO.fin ok hk hy s
 rw [sufM_eq h];exact h
structure PreK (m:Mach) (K:List (List Int)):Prop where
 first:FirstI m.k (fun u l=>wtM m (u++l)) K
 init:∀ u,u ∈ K→u≠[]→u.dropLast ∈ K
 rank:K.length=rankF m.k (wtM m)
 short:∀ u,u ∈ K→u.length<K.length
theorem pre_ex (ok:m.Ok)(z:m.Sz e):PreK m (preM m)∧(preM m).length≤m.n:=by
 obtain ⟨y,hy,hb⟩:=bas_ex (turn_ok ok) z.turn
 obtain ⟨mv,v⟩:=view_of ok hy
 have hs:=bas_short (turn_ok ok) z.turn
 have hm6:=z.n6
 have hn:(basK (turnM m)).length≤m.n:=by rw [← hb];exact hy.b.few.2
 obtain ⟨x,hx,_⟩:=invS_ex (m:=mv) (B:=69177619) v.ok (by rw [v.n];omega) (by decide) fun w hw h6 i=>by
  rw [v.vec w (by rw [← v.k];exact hw)]
  exact view_sz6 z h6 (fun l hl=>by have h1:l.length<m.n:=hs l hl;omega) i
 have hf:=hy.first ok v hx
 rw [preM_eq hf]
 have h2:=hx.b.few.2
 rw [v.n] at h2
 exact ⟨⟨hf,fun u hu hne=>hx.closed hu hne,hy.rank ok v hx,hx.short⟩,Nat.le_trans h2 hn⟩
theorem FirstI.lt {h:List Int→List Int→Rat}(f:FirstI k h K){j:Nat}(hj:j<K.length)(h0:0<j):slx (K.getD (j-1) []) (K.getD j [])<0:=by
 have h1:=List.pairwise_iff_getElem.1 f.ord (j-1) j (by omega) hj (by omega)
 rw [gd9,gd9,ge9 (by omega),ge9 hj]
 exact h1
end
end Go.AL
