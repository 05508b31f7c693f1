/-
  Walks of layers 22 and 23 of the specification, part 1: vectors (printed by mk2.py).
-/
import Derived.Test.YtanlenlmihoiiaaGreatDoorKWkY
set_option maxHeartbeats 800000
set_option linter.unusedVariables false
set_option linter.unusedSimpArgs false
namespace Go.AL
open Go Go.BigFrame
def Mem.joined (M N:Mem):Mem:=λid=>if (N id).isSome then N id else M id
section
variable {P:Program}{E:Env}{K:S->Prop}{s:S}{ty:Nat}{pos:String}{after:Array Edge}
theorem After.joined {F F':Hp}{w w':World}{M N:Mem}(h:wR F M w)(ha:After F jA w F' N w'):After F M w F' (M.joined N) w':=by
 have part:∀ id blk,(M.joined N) id=some blk->N id=some blk \/ (N id=Option.none/\M id=some blk):=λid blk hm=>by
  unfold Mem.joined at hm;cases hq:N id with
  | none=>simp[hq] at hm;exact .inr ⟨rfl,hm⟩
  | some b=>simp[hq] at hm;exact .inl (by rw[<- hm])
 have far:∀ id blk k,M id=some blk->blk.owns k->k<w.heap.size:=λid blk k hm ho=>(h.own id blk hm).lt ho;have new:∀ id blk k,N id=some blk->blk.owns k->w.heap.size<=k:=λid blk k hm ho=>(ha.kM k ⟨id,blk,hm,ho⟩).resolve_right (gq k);refine⟨ha.grow.mono λi x=>absurd x (gq i),ha.le,⟨ha.gU.rC,λid blk hm=>?_,λid blk k hm ho=>?_,λi j bi bj k hi hj ki kj=>?_⟩,λk p q=>.inl ((ha.new k p q).resolve_right (gq k)),λk ⟨id,blk,hm,ho⟩=>?_⟩
 .rcases part id blk hm with hm|⟨_,hm⟩
  .exact ha.gU.own id blk hm
  .exact (h.own id blk hm).keep ha.le λk ho=>ha.grow.block k (far id blk k hm ho) (gq k)
 .rcases part id blk hm with hm|⟨_,hm⟩
  .exact ha.gU.apart id blk k hm ho
  .cases hf:F' k with
   | none=>rfl
   | some o =>
    have h1:=far id blk k hm ho;have h2:=(ha.new k (h.apart id blk k hm ho) (by rw[hf];simp)).resolve_right (gq k)
    omega
 .rcases part i bi hi with hi|⟨ni,hi⟩ <;> rcases part j bj hj with hj|⟨nj,hj⟩
  .exact ha.gU.inj i j bi bj k hi hj ki kj
  .have:=new i bi k hi ki;have:=far j bj k hj kj;omega
  .have:=far i bi k hi ki;have:=new j bj k hj kj;omega
  .exact h.inj i j bi bj k hi hj ki kj
 .rcases part id blk hm with hm|⟨_,hm⟩
  .exact .inl (new id blk k hm ho)
  .exact .inr ⟨id,blk,hm,ho⟩
theorem SO.JP {α:Type}{f:Operand}{args:Array Operand}{ats:Array TypeId}{mJ:Nat}{caps args':List V}{Mk:α->Mem}{res:α->V}{φ:α->Prop}{dst:Option Nat}{g:Option (Nat × Bool)}(hd:ou E.n dst)
  (hf:s.ev f=.fn mJ caps) (ha:fK (args.toList.map s.ev++caps) args') (hs:jD P mJ args' jA res Mk φ)
  (h:∀ x,φ x->K ((⟨s.ρ,s.M.joined (Mk x)⟩:S).put dst (res x))):SO P E ⟨dst,.call { callee:=.value f,args:=args,argTypes:=ats },ty,pos,after,g⟩ K s:=λF a w hr=>by
 have hf':=hr.eval f;rw[hf] at hf';generalize Xo:a.eval f=af at hf';cases hf' with
 | @fn _ us _ hl hrr =>
  have hvs:lQ F (args.toList.map a.eval++us) args':=qE (vk (ny hr.eval _) ⟨hl,hrr⟩) ha;have hcc:=hs.2 F w _ (zB hr.gU.rC) hvs;unfold execOp;have e1:(args.map a.eval++us.toArray)=(args.toList.map a.eval++us).toArray:=by simp
  simp only[resolve,Xo,Deferred.ofValue,Sem.run_bind,Sem.run_pure,Result.andThen_ok,invoke,Array.empty_append,e1,lS hs.1];refine hcc.mono λe2 w' ⟨x,hφ,v,F',he,hA,hv⟩=>?_;exact⟨v,he,F',_,hr.nD (dst:=dst) (After.joined hr.gU hA) hd (v:=res x) hv,h x hφ⟩
end
theorem ai.read {P:Program}{f id b c e sz:Nat}{es:List D}{args oJ:List V}{x:Value}(h:ai P f args (.d (.sc x)))(ha:fK (oJ.map (V.UE id b c es)) args) :
  fQ P f oJ (mem1 id (.row b c e sz es)) (.d (.sc x)) (mem1 id (.row b c e sz es)) :=
 ⟨h.1,λF w vals hS hv=>by
  obtain⟨F',h1,h2,h3,h4⟩:=wV hS (Gh id (.row b c e sz es));have hv':lQ F' vals args:=qE ⟨by rw[hv.1,dL],λi y u hy hu=>by
   rw[List.getElem?_map] at hy;cases hq:oJ[i]? with
   | none=>rw[hq] at hy;cases hy
   | some z=>rw[hq] at hy;cases hy;exact V.IZ h1 h4 (hv.2 i z u hq hu)⟩ ha
  refine (h.2 F' w vals h2.rC hv').mono λe2 w' ⟨v,F'',he,hx,hr⟩=>⟨v,F,he,⟨hx.grow.mono λi k=>k.elim,Hp.le.refl _,⟨λk o hk=>hx.rC k o (hx.le k o (h1 k o hk)),λj blk hm=>?_,hS.apart,hS.inj⟩,λk p q=>absurd p q,λk k2=>.inr k2⟩,?_⟩
  .refine (hS.own j blk hm).keep (Hp.le.refl _) λk ho=>hx.grow.block k ((hS.own j blk hm).lt ho) λq=>q
  .cases hr with
   | d hd ho=>cases hd with
    | sc hs=>exact .d (.sc hs) ho⟩
end Go.AL
namespace Go.Proofs.YtanlenlmihoiiaaGreatDoor
open Go Go.AL
theorem bg0 {l:List Rat}:∀ y,y ∈ l.map dQ->y.cells.length=3:=λy hy=>by obtain⟨a,_,rfl⟩:=jH hy;rfl
theorem RU {v:List Rat}{i:Nat}(h:∀ j,j<i->v.getD j 0=0)(h0:v.getD i 0=0):∀ j,j<i+1->v.getD j 0=0:=λj hj=>by
 rcases Nat.lt_or_ge j i with g|g
 .exact h j g
 .rw[show j=i by omega];exact h0
abbrev RV (v w:List Rat)(c:Rat)(i:Nat):List Rat:=(C9 v w c).take i
theorem YS {v w:List Rat}{c:Rat}{i:Nat}(h:i<v.length):RV v w c (i+1)=RV v w c i++[v.getD i 0-w.getD i 0*c]:=by
 unfold RV;rw[iV 0 (by rw[KP];exact h)]
 congr 2;exact aO _ _ h
theorem GR {rs:List dh}{w:List Rat}:Dc (bC rs w)<0 ↔ bW rs w=false:=by
 unfold Dc bW
 split
 .rename_i h;rw[decide_eq_true h];constructor
  .intro;omega
  .intro k;cases k
 .rename_i h;rw[decide_eq_false h];exact⟨λ_=>rfl,λ_=>by decide⟩
def FV:List dh->List Rat->List Rat->List Rat
 | [],_,t=>t
 | r::rs,w,t=>FV rs (jr w r) (C9 t r.c (kz w r))
theorem Pv:∀ (rs:List dh) (w t:List Rat),(FV rs w t).length=t.length
 | [],_,_=>rfl
 | r::rs,w,t=>by rw[FV,Pv rs,KP]
theorem RX {r:dh}:∀ (a:List dh) (w t:List Rat),FV (a++[r]) w t=C9 (FV a w t) r.c (kz (bC a w) r)
 | [],_,_=>rfl
 | x::a,w,t=>by rw[List.cons_append,FV,FV,bC,RX a]
theorem ak9 {rs:List dh}{w t:List Rat}{k:Nat}(hk:k<rs.length):FV (rs.take (k+1)) w t=C9 (FV (rs.take k) w t) (rs.getD k default).c (kz (bC (rs.take k) w) (rs.getD k default)):=by rw[Io hk,RX]
abbrev dSK (r:dh):D:=.ag [gm r.v,gm r.c]
abbrev vSK (r:dh):V:=.ag [.d (gm r.v),.d (gm r.c)]
abbrev ac2 (b c:Nat)(rs:List dh):iI:=.row b c T.row 2 (rs.map dSK)
theorem bs9 {r:dh}:VD (vSK r) (dSK r):=VD.ag (.cons (VC.d _) (.cons (VC.d _) .nil))
theorem JQ {rs:List dh}{i:Nat}(hi:i<rs.length):(rs.map dSK)[i]? = some (dSK (rs.getD i default)):=by rw[List.getElem?_map,iO,lF hi];rfl
structure ac3 (n N:Nat) (rs:List dh):Prop where
 len:∀ r,r ∈ rs->r.v.length=n
 piv:∀ r,r ∈ rs->r.p=eU r.v/\r.p<n/\r.v.getD r.p 0≠0
 cl:∀ r,r ∈ rs->r.c.length=N
 zr:MJ 16777215 rs
 le:rs.length<=6
theorem aE7 {t c:List Rat}{q:Rat}{T C:Nat}(ht:∀ i,sz (t.getD i 0)<=T)(hc:∀ i,sz (c.getD i 0)+sz q<=C)(i:Nat):sz ((C9 t c q).getD i 0)<=T+C+1:=by
 unfold C9;refine Jr t.length (f:=λi=>t.getD i 0-c.getD i 0*q) (by omega) (λi=>?_) i
 have h1:=as4 (t.getD i 0) (c.getD i 0*q);have h2:=jS (c.getD i 0) q;have h3:=ht i;have h4:=hc i;omega
theorem WT {B:Nat}:∀ (rs:List dh) (j:Nat) (w t:List Rat),(∀ k r,rs[k]? = some r->(∀ i,sz (r.v.getD i 0)+1<=4 ^ (j+k)*(B+1))/\∀ i,sz (r.c.getD i 0)+1<=4 ^ (j+k)*(B+1))->(∀ i,sz (w.getD i 0)+1<=4 ^ j*(B+1))->(∀ i,sz (t.getD i 0)+1<=4 ^ j*(B+1)) ->
  ∀ i,sz ((FV rs w t).getD i 0)+1<=4 ^ (j+rs.length)*(B+1)
 | [],_,_,_,_,_,ht,i=>ht i
 | r :: rs, j, w, t, h, hw, ht, i => by
  have h0:=h 0 r rfl;rw[Nat.add_zero] at h0;have:=WT rs (j+1) (jr w r) (C9 t r.c (kz w r)) (λk q hq=>by
   have:=h (k+1) q hq
   rwa [show j+(k+1)=j+1+k by omega] at this) (λi=>by
   have:=Go.AL.Js hw h0.1 i
   rwa [Nat.pow_succ,Nat.mul_comm (4 ^ j),Nat.mul_assoc]) (λi=>by
   have h2:=X9 hw h0.1;have:=aE7 (t:=t) (c:=r.c) (q:=kz w r) (T:=4 ^ j*(B+1)-1) (C:=3*(4 ^ j*(B+1))-3) (λi=>by have:=ht i;omega) (λi=>by have:=h0.2 i;omega) i
   have h3:=hw 0;rw[Nat.pow_succ,Nat.mul_comm (4 ^ j),Nat.mul_assoc];omega) i
  rwa [FV,List.length_cons,show j+(rs.length+1)=j+1+rs.length by omega]
theorem ac3.bounds {n N k:Nat}{rs:List dh}{w:List Rat}(z:ac3 n N rs)(hk:k<rs.length)(zw:∀ i,sz (w.getD i 0)<=16777215) :
  (∀ i,sz ((bC (rs.take k) w).getD i 0)<=17179869183)/\(∀ i,sz ((FV (rs.take k) w (List.replicate N 0)).getD i 0)<=17179869183)/\(∀ i,sz ((rs.getD k default).v.getD i 0)<=17179869183)/\∀ i,sz ((rs.getD k default).c.getD i 0)<=17179869183:=by
 obtain⟨h1,_,h3,h4⟩:=z.zr.bounds (n:=N) z.le hk zw;refine⟨h1,λi=>?_,h3,h4⟩;have ht:(rs.take k).length=k:=by rw[List.length_take];omega
 have hle:=z.le;have hb:=LY (show k<=5 by omega)
 have h:=WT (B:=16777215) (rs.take k) 0 w (List.replicate N 0) (λk r hk=>by rw[Nat.zero_add];exact (z.zr.take _) k r hk) (λi=>by rw[Nat.pow_zero,Nat.one_mul];have:=zw i;omega) (λi=>by rw[Nat.pow_zero,Nat.one_mul,OH,fH];decide) i
 rw[Nat.zero_add,ht] at h;omega
theorem ac4 {x y:Raw}(hx:x.Ok)(hy:y.Ok)(h0:y.q≠0):ai P F.BX [uo x,uo y] (vQ (x.q / y.q)):=by
 have a1:=EZ hx hx.ln hx.ld (by decide)
 have a2:=EZ hy hy.ln hy.ld (by decide)
 have sn1:=lI x.q;have sn2:=lI y.q;have sd1:=lJ x.q;have sd2:=lJ y.q;have hn0:y.q.num.natAbs≠0:=λe=>h0 (Rat.num_eq_zero.1 (by omega))
 have m1:=gI x.q.num.natAbs y.q.den;have m2:=gI x.q.den y.q.num.natAbs;have dd0:=Nat.mul_ne_zero x.q.den_nz hn0;have hp:=XQ (s:=decide (x.q.num<0)) (t:=decide (y.q.num<0)) (a:=x.q.num.natAbs) x.q.den_nz y.q.den_nz hn0;rw[mY,mY] at hp;refine ai.intro fn.BX (by rfl) (by rfl) (au (by rfl)) λE hE=>(AW.sg hE rfl (iG rfl rfl λb2=>(iG rfl rfl λb3=>(al z.Rat rfl λb4=>(OL.nil (AW.seq (AW.dg 1 [0,1,2,3,4,5] ak hE rfl (by kernel_rfl) (OI.aP (os:=[_,_,_,_,_,_]) rfl ?_))))))))
 refine aQ ag.Rat rfl rfl (vs:=[_,_,_]) rfl (au rfl) (bP rfl .dw (wJ (by assumption)) (aQ ag.Rat rfl rfl (vs:=[_,_,_]) rfl (au rfl) (bP rfl .dw (wJ (by assumption)) (eG sz.Rat rfl rfl rfl rfl rfl (au rfl) (cells2:=[_,_,_]) rfl (eG sz.Rat rfl rfl rfl rfl rfl (au rfl) (cells2:=[_,_,_]) rfl (OL.nil (AW.seq ?_)))))))
 refine AW.dg 1 [0,1,2,3,4,5,6,7,8,9,10,11,12,13,14,15,16] ak hE rfl (by kernel_rfl) (OI.aP (os:=[_,_,_,_,_,_,_,_,_,_,_,_,_,_,_,_,_]) rfl ?_)
 refine aV fd.tN rfl rfl (aA ce.bool rfl rfl rfl (aV fd.tN rfl rfl (aA ce.bool rfl rfl rfl (neb bt.bool rfl rfl (aV fd.rU rfl rfl (aA ce.aI rfl rfl rfl (aQ ag.Rat rfl rfl (vs:=[_,_,_]) rfl (au rfl) ?_)))))));refine bP rfl .dw (Bq) (bP rfl vL (uV (a:=x.q.num.natAbs) (b:=y.q.den) (by omega) (by omega)) (aQ ag.Rat rfl rfl (vs:=[_,_,_]) rfl (au rfl) (bP rfl .dw (Bq) (aV fd.rU rfl rfl (aA ce.aI rfl rfl rfl (bP rfl vL (uV (a:=x.q.den) (b:=y.q.num.natAbs) (by omega) (by omega)) (bP rfl vL (Cm (s:=(decide (x.q.num<0) != decide (y.q.num<0))) (by omega) (by omega) dd0) ?_)))))))
 rw[<- hp];exact eG sz.Rat rfl rfl rfl rfl rfl (au rfl) (cells2:=[_,_,_]) rfl (OL.nil (AW.ret (aT.r ⟨_,.dK rfl rfl ag.Rat (au rfl) .nil,.ag (.cons (.le vR) (.cons (.le vR) (.cons (.le vR) .nil)))⟩)))
theorem aU7 {x y:Raw}(hx:x.Ok)(hy:y.Ok)(h0:y.q≠0):ai P F.Cc [uo x,uo y] (.oM [vQ (x.q / y.q),.d (dI 0)]):=by
 refine ai.intro fn.Cc (by rfl) (by rfl) (au (by rfl)) λE hE=>(AW.sg hE rfl (iG rfl rfl λb2=>(iG rfl rfl λb3=>(al z.Rat rfl λb4=>(aG rfl (OL.nil (AW.seq ?_)))))))
 refine AW.sg hE rfl (aQ ag.Rat rfl rfl (vs:=[_,_,_]) rfl (au rfl) (bP rfl vL (Vq hy) (fE rfl rfl rfl (OL.nil (AW.cond rfl (λhno=>absurd hno (by rw[decide_eq_false λe=>h0 (qg.1 e)];decide)) (λ_=>?_))))))
 refine AW.skip (AW.sg hE rfl (aQ ag.Rat rfl rfl (vs:=[_,_,_]) rfl (au rfl) (aQ ag.Rat rfl rfl (vs:=[_,_,_]) rfl (au rfl) (bP rfl vL (ac4 hx hy h0) (eG sz.Rat rfl rfl rfl rfl rfl (au rfl) (cells2:=[_,_,_]) rfl (aG rfl (OL.nil ?_)))))));exact AW.ret (aT.r ⟨_,.dK rfl rfl ag.Rat (au rfl) (.tmp rfl .nil),_,.cons (.ag (.cons (.le vR) (.cons (.le vR) (.cons (.le vR) .nil)))) (.cons (.le vR) .nil),rfl⟩)
theorem aE8 {x y:Rat}(hx:sz x<=68719476736)(hy:sz y<=68719476736)(h0:y≠0):ai P F.Cc [vQ x,vQ y] (.oM [vQ (x / y),.d (dI 0)]):=by
 have h:=aU7 (x:=iD x) (y:=iD y) (kD (by omega)) (kD (by omega)) (by rw[oK];exact h0)
 rw[oK,oK] at h;exact h
theorem aE9 {x y:Rat}(hx:sz x<=68719476736)(hy:sz y<=68719476736)(h0:y≠0):ai P F.BX [vQ x,vQ y] (vQ (x / y)):=by
 have h:=ac4 (x:=iD x) (y:=iD y) (kD (by omega)) (kD (by omega)) (by rw[oK];exact h0)
 rw[oK,oK] at h;exact h
theorem aF0 {v u:List Rat}{n:Nat}(hv:v.length=n)(hu:u.length=n)(hn:n<=64)(zv:∀ i,sz (v.getD i 0)<=16777215)(zu:∀ i,sz (u.getD i 0)<=16777215):ai P F.Gl [.d (gm v),.d (gm u)] (vQ (He v u n)):=by
 refine ai.intro fn.Gl (by rfl) (by rfl) (au (by rfl)) λE hE=>(AW.sg hE rfl (al z.Rat rfl λb4=>(OL.nil (AW.sg hE rfl (bd z.Rat pl.Rat (cs:=[_,_,_]) rfl (al z.Rat rfl λb5=>(eG sz.Rat rfl rfl rfl rfl rfl (au rfl) (cells2:=[_,_,_]) rfl ?_)))))))
 refine OL.nil (AW.seq (AW.sg hE rfl (aG rfl (OL.nil (AW.block (AW.pV 5 (Kq 0) rfl au3 ?_))))));refine AW.aX (α:=Nat) [(0,_),(1,_),(4,_),(5,_)] [(4,_)] (λi=>[(6,.d (dI i))]) (λi=>[(5,.box b5 T.Rat (Kq (He v u i)))]) (λi=>i<=n) (λi=>n-i) 0 (.cons (dA rfl) (.cons (dA rfl) (.cons (iF rfl) (.cons (iF rfl) .nil)))) (.cons (jc rfl) .nil) ⟨Nat.zero_le _,.dw,.cons rfl .nil⟩ ?_
 rintro i h1
 have h1:i<=n:=h1;have z1:=zv i;have z2:=zu i;have z3:=jS (v.getD i 0) (u.getD i 0);have z4:sz (He v u i)<=1+i*(33554430+1):=Jp i λj _=>by have:=jS (v.getD j 0) (u.getD j 0);have:=zv j;have:=zu j;omega
 refine AW.seq (AW.sg hE rfl (aj rfl (aj rfl (fO sl.bF rfl rfl (bD rfl rfl rfl (OL.split 11 rfl (λha=>?_) (λha=>?_)))))))
 .have ha:i<n:=by have:=mX ha;omega
  refine aj rfl (OL.yes rfl (aj rfl (OL.yes rfl (aj rfl (OL.yes rfl (fO sl.bF rfl rfl (OL.yes rfl ?_)))))));refine bD rfl rfl (c:=true) (decide_eq_true (by omega)) (nJ rfl rfl (OL.nil (F6 rfl ?_)))
  refine AW.skip (AW.seq (AW.block (AW.dg 1 [0,1,2,3,4,5,6,7,8,9,10,11] ak hE rfl (by kernel_rfl) (OI.aP (os:=[_,_,_,_,_,_,_,_,_,_,_,_]) rfl ?_))))
  refine aQ ag.Rat rfl rfl (vs:=[_,_,_]) rfl (au rfl) (aj rfl (aj rfl (fD sl.bF 0 rfl rfl (by omega) rfl rfl (iR ag.Rat rfl (vs:=[_,_,_]) rfl (au rfl) (aj rfl (aj rfl (fD sl.bF 0 rfl rfl (by omega) rfl rfl ?_)))))))
  refine iR ag.Rat rfl (vs:=[_,_,_]) rfl (au rfl) (bP rfl vL (FU (x:=v.getD i 0) (y:=u.getD i 0) (by omega) (by omega)) (bP rfl vL (Oj (x:=He v u i) (y:=v.getD i 0*u.getD i 0) (by omega) (by omega)) (eG sz.Rat rfl rfl rfl rfl rfl (au rfl) (cells2:=[_,_,_]) rfl (OL.nil (AW.rg hE rfl (aj rfl (aJ rfl rfl (by omega) ?_)))))))
  exact aG rfl (OL.nil (AW.again (x:=i) (i+1) (by omega) ⟨by omega,Knows.app .J5 .dw,dP.app (.cons rfl .nil) (.cons rfl .nil)⟩))
 .have ha:¬ i<n:=by have:=oN ha;omega
  obtain rfl:i=n:=by omega
  refine aj rfl (OL.nd rfl (OL.nd rfl (OL.nd rfl (OL.nd rfl (oI rfl rfl (OL.nil (pW rfl ?_)))))));exact AW.exit (AW.sg hE rfl (aQ ag.Rat rfl rfl (vs:=[_,_,_]) rfl (au rfl) (eG sz.Rat rfl rfl rfl rfl rfl (au rfl) (cells2:=[_,_,_]) rfl (OL.nil (AW.ret (aT.r ⟨_,.dK rfl rfl ag.Rat (au rfl) .nil,.ag (.cons (.le vR) (.cons (.le vR) (.cons (.le vR) .nil)))⟩))))))
theorem aU8 {l:List Rat}(nl:l.length<=64)(hz:∀ i,sz (l.getD i 0)<=68719476736):ai P F.DW [.d (gm l)] (.d (gm l)):=by
 refine ai.intro fn.DW (by rfl) (by rfl) (au (by rfl)) λE hE=>(AW.sg hE rfl (nI rfl (OL.nil (AW.sg hE rfl (nI rfl (OL.nil (AW.seq ?_)))))))
 refine AW.seq (AW.own 3 18 T.Rat 3 rfl rfl (AW.rg hE rfl (aG rfl (OL.nil (AW.block ?_)))));refine AW.aX (α:=Nat × Nat × Nat) [(0,_),(2,_)] [] (λ(i,bq,cq)=>[(3,.bK 18 bq i cq),(4,.d (dI i))]) (λ(i,bq,cq)=>[(18,.row bq cq T.Rat 3 ((l.take i).map dQ))]) (λ(i,bq,cq)=>i<=l.length) (λ(i,bq,cq)=>l.length-i) (0,0,0) (.cons (dA rfl) (.cons (BO rfl) .nil)) .nil ⟨Nat.zero_le _,.jm,.cons rfl .nil⟩ ?_
 rintro⟨i,bq,cq⟩ h1
 have h1:i<=l.length:=h1;refine AW.seq (AW.sg hE rfl (aj rfl (aj rfl (fO sl.bF rfl rfl (bD rfl rfl rfl (OL.nil (AW.cond rfl (λh8=>?_) (λh8=>?_))))))))
 .try simp only[fG] at h8
  refine AW.skip (AW.seq (AW.block ?_));have hx:=hz i;refine AW.rg hE rfl (jl rfl (aj rfl (aj rfl (fD sl.bF 0 rfl rfl (by omega) rfl rfl (iR ag.Rat rfl (vs:=[_,_,_]) rfl (au rfl) (bP rfl vL (RP (q:=l.getD i 0) (by omega)) (xG (y:=dQ (l.getD i 0)) sl.bF EN rfl (by decide) ?_)))))))
  refine Am sl.bF rfl rfl rfl (by rw[dL,List.length_take];omega) (VC.d _) (λy hy=>by rw[lV hy];rfl) (by simp only[kC];omega) (by simp only[kC];omega) (.inr rfl) (ys:=(l.take (i+1)).map dQ) (by rw[iV 0 (by omega),List.map_append];rfl) (n2:=i+1) rfl λb18 c18=>?_
  exact uf rfl (OL.nil (AW.rg hE rfl (aj rfl (aJ rfl rfl (by omega) (aG rfl (OL.nil (AW.again (x:=(i,bq,cq)) (i+1,b18,c18) (by (simp only[];omega)) ⟨by omega,Knows.app .jm .jm,.cons rfl .nil⟩)))))))
 .try simp only[fG] at h8
  refine AW.exit (AW.seq ?_);obtain rfl:i=l.length:=by omega
  exact AW.rg hE rfl (jl rfl (uf rfl (OL.nil (AW.ret (aT.r ⟨_,.tmp rfl .nil,RO.all rfl rfl (by simp) (by rw[List.take_length])⟩)))))
theorem Px {l:List Rat}(nl:l.length<=64):ai P F.xO [.d (lC l)] (.d (gm l)):=by
 refine ai.intro fn.xO (by rfl) (by rfl) (au (by rfl)) λE hE=>(AW.sg hE rfl (nI rfl (OL.nil (AW.sg hE rfl (nI rfl (OL.nil (AW.seq ?_)))))))
 refine AW.seq (AW.own 3 18 T.Rat 3 rfl rfl (AW.rg hE rfl (aG rfl (OL.nil (AW.block ?_)))));refine AW.aX (α:=Nat × Nat × Nat) [(0,_),(2,_)] [] (λ(i,bq,cq)=>[(3,.bK 18 bq i cq),(4,.d (dI i))]) (λ(i,bq,cq)=>[(18,.row bq cq T.Rat 3 ((l.take i).map dQ))]) (λ(i,bq,cq)=>i<=l.length) (λ(i,bq,cq)=>l.length-i) (0,0,0) (.cons (dA rfl) (.cons (BO rfl) .nil)) .nil ⟨Nat.zero_le _,.jm,.cons rfl .nil⟩ ?_
 rintro⟨i,bq,cq⟩ h1
 have h1:i<=l.length:=h1;refine AW.seq (AW.sg hE rfl (aj rfl (aj rfl (fO sl.aS rfl rfl (bD rfl rfl rfl (OL.nil (AW.cond rfl (λh8=>?_) (λh8=>?_))))))))
 .try simp only[fG] at h8
  refine AW.skip (AW.seq (AW.block (AW.rg hE rfl (jl rfl (aj rfl (aj rfl (fD sl.aS 0 rfl rfl (by omega) rfl rfl ?_)))))))
  refine Qw fd.gG rfl rfl (iR ag.Rat rfl (vs:=[_,_,_]) rfl (au rfl) (xG (y:=dQ (l.getD i 0)) sl.bF EN rfl (by decide) ?_))
  refine Am sl.bF rfl rfl rfl (by rw[dL,List.length_take];omega) (VC.d _) (λy hy=>by rw[lV hy];rfl) (by simp only[kC];omega) (by simp only[kC];omega) (.inr rfl) (ys:=(l.take (i+1)).map dQ) (by rw[iV 0 (by omega),List.map_append];rfl) (n2:=i+1) rfl λb18 c18=>?_
  exact uf rfl (OL.nil (AW.rg hE rfl (aj rfl (aJ rfl rfl (by omega) (aG rfl (OL.nil (AW.again (x:=(i,bq,cq)) (i+1,b18,c18) (by (simp only[];omega)) ⟨by omega,Knows.app .jm .jm,.cons rfl .nil⟩)))))))
 .try simp only[fG] at h8
  refine AW.exit (AW.seq ?_);obtain rfl:i=l.length:=by omega
  exact AW.rg hE rfl (jl rfl (uf rfl (OL.nil (AW.ret (aT.r ⟨_,.tmp rfl .nil,RO.all rfl rfl (by simp) (by rw[List.take_length])⟩)))))
theorem ac5 {v:List Rat}(nl:v.length<=64)(hz:∀ i,sz (v.getD i 0)<=274877906944):ai P F.DY [.d (gm v)] (.d (dI (Dc v))):=by
 refine ai.intro fn.DY (by rfl) (by rfl) (au (by rfl)) λE hE=>(AW.sg hE rfl (aG rfl (OL.nil (AW.seq (AW.sg hE rfl (aG rfl (OL.nil ?_)))))))
 refine AW.block (AW.aX (α:=Nat) [(0,_)] [] (λi=>[(3,.d (dI i))]) (λi=>[]) (λi=>i<=v.length/\∀ j,j<i->v.getD j 0=0) (λi=>v.length-i) 0 (.cons (dA rfl) .nil) .nil ⟨⟨Nat.zero_le _,λj hj=>by omega⟩,.dw,.nil⟩ ?_)
 rintro i ⟨h1,h2⟩
 have h1:i<=v.length:=h1;have h2:∀ j,j<i->v.getD j 0=0:=h2;refine AW.seq (AW.sg hE rfl (aj rfl (aj rfl (fO sl.bF rfl rfl (bD rfl rfl rfl (OL.nil (AW.cond rfl (λh7=>?_) (λh7=>?_))))))))
 .try simp only[fG] at h7
  refine AW.skip (AW.seq (AW.block (AW.seq ?_)));have zx:=hz i;refine AW.rg hE rfl (aj rfl (aj rfl (fD sl.bF 0 rfl rfl (by omega) rfl rfl (iR ag.Rat rfl (vs:=[_,_,_]) rfl (au rfl) (bP rfl vL (Gq (x:=v.getD i 0) (by omega)) (fJ rfl rfl rfl (OL.nil ?_)))))))
  refine AW.cond rfl (λhx=>?_) (λhx=>?_)
  .have hx:v.getD i 0≠0:=λe=>zH hx (qg.2 e);exact AW.sg hE rfl (aj rfl (aG rfl (OL.nil (AW.ret (aT.r ⟨_,.tmp rfl .nil,.le (bV.int ((WC (by omega) hx h2).symm))⟩)))))
  .have hx:v.getD i 0=0:=qg.1 (yc hx);exact AW.skip (AW.rg hE rfl (aj rfl (aJ rfl rfl (by omega) (aG rfl (OL.nil (AW.again (x:=i) (i+1) (by omega) ⟨⟨by omega,RU h2 hx⟩,Knows.app .dw .dw,.nil⟩))))))
 .try simp only[fG] at h7
  exact AW.exit (AW.sg hE rfl (aG rfl (OL.nil (AW.ret (aT.r ⟨_,.tmp rfl .nil,.le (bV.int ((RH λj hj=>h2 j (by omega)).symm))⟩)))))
theorem Ur {v:List Rat}(nl:v.length<=64)(hz:∀ i,sz (v.getD i 0)<=274877906944):ai P F.Ed [.d (gm v)] (.d (dI (Dc v))):=by
 refine ai.intro fn.Ed (by rfl) (by rfl) (au (by rfl)) λE hE=>(AW.sg hE rfl (aG rfl (OL.nil (AW.seq (AW.sg hE rfl (aG rfl (OL.nil ?_)))))))
 refine AW.block (AW.aX (α:=Nat) [(0,_)] [] (λi=>[(3,.d (dI i))]) (λi=>[]) (λi=>i<=v.length/\∀ j,j<i->v.getD j 0=0) (λi=>v.length-i) 0 (.cons (dA rfl) .nil) .nil ⟨⟨Nat.zero_le _,λj hj=>by omega⟩,.dw,.nil⟩ ?_)
 rintro i ⟨h1,h2⟩
 have h1:i<=v.length:=h1;have h2:∀ j,j<i->v.getD j 0=0:=h2;refine AW.seq (AW.sg hE rfl (aj rfl (aj rfl (fO sl.bF rfl rfl (bD rfl rfl rfl (OL.nil (AW.cond rfl (λh7=>?_) (λh7=>?_))))))))
 .try simp only[fG] at h7
  refine AW.skip (AW.seq (AW.block (AW.seq ?_)));have zx:=hz i;refine AW.rg hE rfl (aj rfl (aj rfl (fD sl.bF 0 rfl rfl (by omega) rfl rfl (iR ag.Rat rfl (vs:=[_,_,_]) rfl (au rfl) (bP rfl vL (Gq (x:=v.getD i 0) (by omega)) (fJ rfl rfl rfl (OL.nil ?_)))))))
  refine AW.cond rfl (λhx=>?_) (λhx=>?_)
  .have hx:v.getD i 0≠0:=λe=>zH hx (qg.2 e);exact AW.sg hE rfl (aj rfl (aG rfl (OL.nil (AW.ret (aT.r ⟨_,.tmp rfl .nil,.le (bV.int ((WC (by omega) hx h2).symm))⟩)))))
  .have hx:v.getD i 0=0:=qg.1 (yc hx);exact AW.skip (AW.rg hE rfl (aj rfl (aJ rfl rfl (by omega) (aG rfl (OL.nil (AW.again (x:=i) (i+1) (by omega) ⟨⟨by omega,RU h2 hx⟩,Knows.app .dw .dw,.nil⟩))))))
 .try simp only[fG] at h7
  exact AW.exit (AW.sg hE rfl (aG rfl (OL.nil (AW.ret (aT.r ⟨_,.tmp rfl .nil,.le (bV.int ((RH λj hj=>h2 j (by omega)).symm))⟩)))))
theorem ac6 {v w:List Rat}{c:Rat}(nl:v.length<=64)(hw:v.length<=w.length)(zv:∀ i,sz (v.getD i 0)<=17179869183)(zw:∀ i,sz (w.getD i 0)<=17179869183)(zc:sz c<=34359738366):ai P F.Eb [.d (gm v),.d (gm w),vQ c] (.d (gm (C9 v w c))):=by
 have hll:=KP (v:=v) (w:=w) (c:=c);refine ai.intro fn.Eb (by rfl) (by rfl) (au (by rfl)) λE hE=>(AW.sg hE rfl (iG rfl rfl λb5=>(nI rfl (OL.nil (AW.sg hE rfl (nI rfl (OL.nil ?_)))))))
 refine AW.seq (AW.seq (AW.own 7 28 T.Rat 3 rfl rfl (AW.rg hE rfl (aG rfl (OL.nil (AW.block ?_))))));refine AW.aX (α:=Nat × Nat × Nat) [(0,_),(1,_),(5,_),(6,_)] [(5,_)] (λ(i,bq,cq)=>[(7,.bK 28 bq i cq),(8,.d (dI i))]) (λ(i,bq,cq)=>[(28,.row bq cq T.Rat 3 ((RV v w c i).map dQ))]) (λ(i,bq,cq)=>i<=v.length) (λ(i,bq,cq)=>v.length-i) (0,0,0) (.cons (dA rfl) (.cons (dA rfl) (.cons (iF rfl) (.cons (BO rfl) .nil)))) (.cons (jc rfl) .nil) ⟨Nat.zero_le _,.jm,.cons rfl .nil⟩ ?_
 rintro⟨i,bq,cq⟩ h1
 have h1:i<=v.length:=h1;have z1:=zv i;have z2:=zw i;have z3:=jS (w.getD i 0) c;refine AW.seq (AW.sg hE rfl (aj rfl (aj rfl (fO sl.bF rfl rfl (bD rfl rfl rfl (OL.nil (AW.cond rfl (λh12=>?_) (λh12=>?_))))))))
 .try simp only[fG] at h12
  refine AW.skip (AW.seq (AW.block (AW.dg 2 [0,1,2,3,4,5,6,7,8,9,10,11,12,13,14] ak hE rfl (by kernel_rfl) (OI.aP (os:=[_,_,_,_,_,_,_,_,_,_,_,_,_,_,_]) rfl ?_))))
  refine jl rfl (aj rfl (aj rfl (fD sl.bF 0 rfl rfl (by omega) rfl rfl (iR ag.Rat rfl (vs:=[_,_,_]) rfl (au rfl) (aj rfl (aj rfl (fD sl.bF 0 rfl rfl (by omega) rfl rfl ?_)))))))
  refine iR ag.Rat rfl (vs:=[_,_,_]) rfl (au rfl) (aQ ag.Rat rfl rfl (vs:=[_,_,_]) rfl (au rfl) (bP rfl vL (FU (x:=w.getD i 0) (y:=c) (by omega) (by omega)) (bP rfl vL (Vr (x:=v.getD i 0) (y:=w.getD i 0*c) (by omega) (by omega)) (xG (y:=dQ (v.getD i 0-w.getD i 0*c)) sl.bF EN rfl (by decide) ?_))))
  refine Am sl.bF rfl rfl rfl (by rw[dL,List.length_take];omega) (VC.d _) (λy hy=>by rw[lV hy];rfl) (by simp only[kC];omega) (by simp only[kC];omega) (.inr rfl) (ys:=(RV v w c (i+1)).map dQ) (by rw[YS (by omega),List.map_append];rfl) (n2:=i+1) rfl λb28 c28=>?_
  refine uf rfl (OL.nil (AW.rg hE rfl (aj rfl (aJ rfl rfl (by omega) (aG rfl (OL.nil ?_))))))
  exact AW.again (x:=(i,bq,cq)) (i+1,b28,c28) (by (simp only[];omega)) ⟨by omega,Knows.app .J5 .jm,dP.app (.cons rfl .nil) (.cons rfl .nil)⟩
 .try simp only[fG] at h12
  refine AW.exit (AW.seq ?_);obtain rfl:i=v.length:=by omega
  exact AW.rg hE rfl (jl rfl (uf rfl (OL.nil (AW.ret (aT.r ⟨_,.tmp rfl .nil,RO.all rfl rfl (by rw[dL,List.length_take];omega) (by rw[show RV v w c v.length=C9 v w c from List.take_of_length_le (by omega)])⟩)))))
theorem aF1 {l:List (List Rat)}{n:Nat}(nl:l.length<=256)(hn:1<=n/\n<=64)(hl:∀ v,v ∈ l->v.length=n):ai P F.AZ [.d (.sl (l.map gm))] (.d (dB true)):=by
 refine ai.intro fn.AZ (by rfl) (by rfl) (au (by rfl)) λE hE=>(AW.sg hE rfl (aG rfl (OL.nil (AW.seq (AW.sg hE rfl (aG rfl (OL.nil ?_)))))))
 refine AW.block (AW.aX (α:=Nat) [(0,_)] [] (λi=>[(3,.d (dI i))]) (λi=>[]) (λi=>i<=l.length) (λi=>l.length-i) 0 (.cons (dA rfl) .nil) .nil ⟨Nat.zero_le _,.dw,.nil⟩ ?_)
 rintro i h1
 have h1:i<=l.length:=h1;refine AW.seq (AW.sg hE rfl (aj rfl (aj rfl (fO sl.dm rfl rfl (bD rfl rfl rfl (OL.nil (AW.cond rfl (λh7=>?_) (λh7=>?_))))))))
 .try simp only[fG] at h7
  refine AW.skip (AW.seq (AW.block (AW.seq ?_)));have hx:=hl _ (getD_mem (show i<l.length by omega) [])
  have hy:=hl _ (getD_mem (show 0<l.length by omega) [])
  refine AW.dg 1 [0,1,2,3,4,5,6,7,8,9,10,11,12,13,14,15,16,17,18,19,20,21,22,23,24,25] ak hE rfl (by kernel_rfl) (OI.aP (os:=[_,_,_,_,_,_,_,_,_,_,_,_,_,_,_,_,_,_,_,_,_,_,_,_,_,_]) rfl ?_)
  refine aj rfl (aj rfl (fD sl.dm [] rfl rfl (by omega) rfl rfl (jb ce.bF rfl (fO sl.bF rfl rfl (bD rfl rfl (c:=false) (by exact decide_eq_false (by omega)) (aj rfl (OL.yes rfl ?_)))))))
  refine aj rfl (OL.yes rfl (aj rfl (OL.yes rfl (fD sl.dm [] rfl rfl (by omega) rfl rfl (OL.yes rfl (jb ce.bF rfl (OL.yes rfl ?_)))))))
  refine fO sl.bF rfl rfl (OL.yes rfl (kS rfl rfl (c:=false) (by exact decide_eq_false (by omega)) (oI rfl rfl (aj rfl (OL.yes rfl (aj rfl (OL.yes rfl ?_)))))))
  refine aj rfl (OL.yes rfl (fD sl.dm [] rfl rfl (by omega) rfl rfl (OL.yes rfl (jb ce.bF rfl (OL.yes rfl (fO sl.bF rfl rfl (OL.yes rfl ?_)))))))
  refine aj rfl (OL.yes rfl (Qa 0 sl.dm [] rfl rfl rfl (by omega) rfl rfl (OL.yes rfl (jb ce.bF rfl (OL.yes rfl (fO sl.bF rfl rfl (OL.yes rfl ?_)))))))
  refine fJ rfl rfl (c:=false) (o6 (by omega)) (oI rfl rfl (OL.nil (pW rfl ?_)))
  exact AW.skip (AW.rg hE rfl (aj rfl (aJ rfl rfl (by omega) (aG rfl (OL.nil (AW.again (x:=i) (i+1) (by omega) ⟨by omega,Knows.app .dw .dw,.nil⟩))))))
 .try simp only[fG] at h7
  exact AW.exit (AW.sg hE rfl (aG rfl (OL.nil (AW.ret (aT.r ⟨_,.tmp rfl .nil,.le vR⟩)))))
