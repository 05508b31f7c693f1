/-
  Walks of layers 22 and 23 of the specification, part 1: vectors (printed by mk2.py).
-/
import Derived.Test.YtmcoihfkniccdaaGreatDoorKWkW
import Derived.Test.YtmcoihfkniccdaaGreatDoorKMod99
set_option linter.unusedVariables false
set_option linter.unusedSimpArgs false
namespace Go.Proofs.YtmcoihfkniccdaaGreatDoor
open Go Go.AL
theorem fc.Auto_3:FieldC P T.Auto 3 4:=⟨by kernel_rfl⟩
theorem ints_len {l:List Int}:∀ y,y ∈ l.map dI→y.cells.length=1:=fun y hy=>by obtain ⟨a,_,rfl⟩:=mm9 hy;rfl
structure Au.Wt (a:Au):Prop where
 ok:a.Ok
 sz:a.Sz 1 10
 s2:a.sym≤32
 st:a.st≤64
theorem Au.Wt.wide {a:Au}(f:Au.Wt a):a.Sz 134217728 20:=Go.AL.Au.Sz.wide f.sz
theorem step_sz {a:Au}(f:Au.Wt a){v:List Rat}{B s i j:Nat}(hv:∀ i,sz (v.getD i 0)≤B):sz ((stepF a.st v s (a.arcs.take i)).getD j 0)≤10*(B+2)+1:=by
 have h2:(a.arcs.take i).length≤a.arcs.length:=by rw [List.length_take];exact Nat.min_le_right ..
 exact stepF_sz hv (fun x hx=>⟨(f.ok.arc x (List.mem_of_mem_take hx)).2.1,f.sz.arc x (List.mem_of_mem_take hx)⟩) (Nat.le_trans h2 f.sz.num)
theorem addF_t {v out:List Rat}{s:Nat}{x:Arc9}(h:x.l=s):addF v s out x=out.set x.t (out.getD x.t 0+v.getD x.f 0*x.q):=if_pos h
theorem addF_f {v out:List Rat}{s:Nat}{x:Arc9}(h:¬ x.l=s):addF v s out x=out:=if_neg h
theorem r8Plain {a:Au}(f:Au.Wt a):FSpec P F.ref08_Plain [vAu a] (.d (dB true)):=by
 have e3:=f.wide.num
 have e4:=formA_len a.arcs
 have hfo:∀ x,x ∈ formA a.arcs→x.f<a.st∧x.t<a.st∧1≤x.l∧x.l≤a.sym:=f.ok.form.arc
 refine FSpec.intro fn.ref08_Plain (by rfl) (by rfl) (nb9 (by rfl)) fun E hE=>(AW.sg hE rfl (bxA rfl rfl fun b1=>(asD rfl (OL.nil (AW.sg hE rfl (faP fd.Auto_0 rfl rfl (ldPA ag.Ring rfl rfl (vs:=[_,_]) rfl (nb9 rfl) ?_)))))))
 refine faP fd.Auto_5 rfl rfl (ldPC ce.Arcs rfl rfl rfl (clv rfl vL (r6Arcs (l:=a.arcs) e3 f.wide.arc) (asD rfl (OL.nil (AW.seq (AW.sg hE rfl (asD rfl ?_)))))))
 refine OL.nil (AW.block (AW.whileK (α:=Nat) [(3,_)] [] (fun i=>[(4,.d (dI i))]) (fun i=>[]) (fun i=>i≤(formA a.arcs).length) (fun i=>(formA a.arcs).length-i) 0 (.cons (knD rfl) .nil) .nil ⟨Nat.zero_le _,.rq1,.nil⟩ ?_))
 rintro i h1
 have h1:i≤(formA a.arcs).length:=h1
 refine AW.seq (AW.sg hE rfl (mvD rfl (mvD rfl (lnL sl.Arcs rfl rfl (c_lss rfl rfl rfl (OL.nil (AW.cond rfl (fun h13=>?_) (fun h13=>?_))))))))
 ·try simp only [dx9] at h13
  refine AW.skip (AW.seq (AW.block (AW.seq ?_)))
  have hx:=(hfo ((formA a.arcs).getD i default) (getD_mem (by omega) default)).2.2.1
  refine AW.rg hE rfl (mvD rfl (mvD rfl (ixLn sl.Arcs default rfl rfl (by omega) rfl rfl (faR fd.Arc_1 rfl rfl (ldRC ce.int rfl (c_eql rfl rfl (c:=false) (by exact decide_eq_false (by omega)) (OL.nil ?_)))))))
  refine cnF rfl ?_
  exact AW.skip (AW.rg hE rfl (mvD rfl (add_i64 rfl rfl (by omega) (asD rfl (OL.nil (AW.again (x:=i) (i+1) (by omega) ⟨by omega,Knows.app .rq1 .rq1,.nil⟩))))))
 ·try simp only [dx9] at h13
  exact AW.exit (AW.sg hE rfl (asD rfl (OL.nil (AW.ret (RetQ.r ⟨_,.tmp rfl .nil,.le vR⟩)))))
end Go.Proofs.YtmcoihfkniccdaaGreatDoor
namespace Go.AL
open Go Go.BigFrame
def Mem.joined (M N:Mem):Mem:=fun id=>if (N id).isSome then N id else M id
section
variable {P:Program}{E:Env}{K:S→Prop}{s:S}{ty:Nat}{pos:String}{after:Array Edge}
theorem After.joined {F F':Hp}{w w':World}{M N:Mem}(h:Sim F M w)(ha:After F noMem w F' N w'):After F M w F' (M.joined N) w':=by
 have part:∀ id blk,(M.joined N) id=some blk→N id=some blk ∨ (N id=Option.none∧M id=some blk):=fun id blk hm=>by
  unfold Mem.joined at hm
  cases hq:N id with
  | none=>simp [hq] at hm;exact .inr ⟨rfl,hm⟩
  | some b=>simp [hq] at hm;exact .inl (by rw [← hm])
 have far:∀ id blk k,M id=some blk→blk.owns k→k<w.heap.size:=fun id blk k hm ho=>(h.own id blk hm).lt ho
 have new:∀ id blk k,N id=some blk→blk.owns k→w.heap.size≤k:=fun id blk k hm ho=>(ha.mnew k ⟨id,blk,hm,ho⟩).resolve_right (owned_none k)
 refine ⟨ha.grow.mono fun i x=>absurd x (owned_none i),ha.le,⟨ha.sim.imm,fun id blk hm=>?_,fun id blk k hm ho=>?_,fun i j bi bj k hi hj ki kj=>?_⟩,fun k p q=>.inl ((ha.new k p q).resolve_right (owned_none k)),fun k ⟨id,blk,hm,ho⟩=>?_⟩
 ·rcases part id blk hm with hm|⟨_,hm⟩
  ·exact ha.sim.own id blk hm
  ·exact (h.own id blk hm).keep ha.le fun k ho=>ha.grow.block k (far id blk k hm ho) (owned_none k)
 ·rcases part id blk hm with hm|⟨_,hm⟩
  ·exact ha.sim.apart id blk k hm ho
  ·cases hf:F' k with
   | none=>rfl
   | some o =>
    have h1:=far id blk k hm ho
    have h2:=(ha.new k (h.apart id blk k hm ho) (by rw [hf];simp)).resolve_right (owned_none k)
    omega
 ·rcases part i bi hi with hi|⟨ni,hi⟩ <;> rcases part j bj hj with hj|⟨nj,hj⟩
  ·exact ha.sim.inj i j bi bj k hi hj ki kj
  ·have:=new i bi k hi ki;have:=far j bj k hj kj;omega
  ·have:=far i bi k hi ki;have:=new j bj k hj kj;omega
  ·exact h.inj i j bi bj k hi hj ki kj
 ·rcases part id blk hm with hm|⟨_,hm⟩
  ·exact .inl (new id blk k hm ho)
  ·exact .inr ⟨id,blk,hm,ho⟩
theorem SO.callNews {α:Type}{f:Operand}{args:Array Operand}{ats:Array TypeId}{fid:Nat}{caps args':List V}{Mk:α→Mem}{res:α→V}{φ:α→Prop}{dst:Option Nat}{g:Option (Nat × Bool)}(hd:Below' E.n dst)
  (hf:s.ev f=.fn fid caps) (ha:VLes (args.toList.map s.ev++caps) args') (hs:FSpecE P fid args' noMem res Mk φ)
  (h:∀ x,φ x→K ((⟨s.ρ,s.M.joined (Mk x)⟩:S).put dst (res x))):SO P E ⟨dst,.call { callee:=.value f,args:=args,argTypes:=ats },ty,pos,after,g⟩ K s:=fun F a w hr=>by
 have hf':=hr.eval f;rw [hf] at hf'
 generalize haf:a.eval f=af at hf'
 cases hf' with
 | @fn _ us _ hl hrr =>
  have hvs:SimVs F (args.toList.map a.eval++us) args':=simVs_le (simVs_app (simVs_map hr.eval _) ⟨hl,hrr⟩) ha
  have hcc:=hs.2 F w _ (sim_none hr.sim.imm) hvs
  unfold execOp
  have e1:(args.map a.eval++us.toArray)=(args.toList.map a.eval++us).toArray:=by simp
  simp only [resolve,haf,Deferred.ofValue,Sem.run_bind,Sem.run_pure,Result.andThen_ok,invoke,Array.empty_append,e1,run_call_fn hs.1]
  refine hcc.mono fun e2 w' ⟨x,hφ,v,F',he,hA,hv⟩=>?_
  exact ⟨v,he,F',_,hr.after_put (dst:=dst) (After.joined hr.sim hA) hd (v:=res x) hv,h x hφ⟩
end
theorem FSpec.read {P:Program}{f id b c e sz:Nat}{es:List D}{args args2:List V}{x:Value}(h:FSpec P f args (.d (.sc x)))(ha:VLes (args2.map (V.frz id b c es)) args) :
  FSpecM P f args2 (mem1 id (.row b c e sz es)) (.d (.sc x)) (mem1 id (.row b c e sz es)) :=
 ⟨h.1,fun F w vals hS hv=>by
  obtain ⟨F',h1,h2,h3,h4⟩:=freeze_row hS (mem1_self id (.row b c e sz es))
  have hv':SimVs F' vals args:=simVs_le ⟨by rw [hv.1,lm9],fun i y u hy hu=>by
   rw [List.getElem?_map] at hy
   cases hq:args2[i]? with
   | none=>rw [hq] at hy;cases hy
   | some z=>rw [hq] at hy;cases hy;exact V.frz_sim h1 h4 (hv.2 i z u hq hu)⟩ ha
  refine (h.2 F' w vals h2.imm hv').mono fun e2 w' ⟨v,F'',he,hx,hr⟩=>⟨v,F,he,⟨hx.grow.mono fun i k=>k.elim,Hp.le.refl _,⟨fun k o hk=>hx.imm k o (hx.le k o (h1 k o hk)),fun j blk hm=>?_,hS.apart,hS.inj⟩,fun k p q=>absurd p q,fun k k2=>.inr k2⟩,?_⟩
  ·refine (hS.own j blk hm).keep (Hp.le.refl _) fun k ho=>hx.grow.block k ((hS.own j blk hm).lt ho) fun q=>q
  ·cases hr with
   | d hd ho=>cases hd with
    | sc hs=>exact .d (.sc hs) ho⟩
end Go.AL
namespace Go.Proofs.YtmcoihfkniccdaaGreatDoor
open Go Go.AL
theorem qs_len {l:List Rat}:∀ y,y ∈ l.map dQ→y.cells.length=3:=fun y hy=>by obtain ⟨a,_,rfl⟩:=mm9 hy;rfl
theorem lead_next {v:List Rat}{i:Nat}(h:∀ j,j<i→v.getD j 0=0)(h0:v.getD i 0=0):∀ j,j<i+1→v.getD j 0=0:=fun j hj=>by
 rcases Nat.lt_or_ge j i with g|g
 ·exact h j g
 ·rw [show j=i by omega];exact h0
theorem leadI_neg {rs:List SRow}{w:List Rat}:leadI (redV rs w)<0 ↔ growsS rs w=false:=by
 unfold leadI growsS
 split
 ·rename_i h;rw [decide_eq_true h];constructor
  ·intro;omega
  ·intro k;cases k
 ·rename_i h;rw [decide_eq_false h];exact ⟨fun _=>rfl,fun _=>by decide⟩
def redK:List SRow→List Rat→List Rat→List Rat
 | [],_,t=>t
 | r::rs,w,t=>redK rs (redStep w r) (lessQ t r.c (qotR w r))
structure RowsK (n N:Nat) (rs:List SRow):Prop where
 len:∀ r,r ∈ rs→r.v.length=n
 piv:∀ r,r ∈ rs→r.p=firstP r.v∧r.p<n∧r.v.getD r.p 0≠0
 cl:∀ r,r ∈ rs→r.c.length=N
 zr:SzR 16777215 rs
 le:rs.length≤6
theorem lessQ_sz {t c:List Rat}{q:Rat}{T C:Nat}(ht:∀ i,sz (t.getD i 0)≤T)(hc:∀ i,sz (c.getD i 0)+sz q≤C)(i:Nat):sz ((lessQ t c q).getD i 0)≤T+C+1:=by
 unfold lessQ
 refine range_sz t.length (f:=fun i=>t.getD i 0-c.getD i 0*q) (by omega) (fun i=>?_) i
 have h1:=sz_sub (t.getD i 0) (c.getD i 0*q)
 have h2:=sz_mul (c.getD i 0) q
 have h3:=ht i
 have h4:=hc i
 omega
theorem redK_szJ {B:Nat}:∀ (rs:List SRow) (j:Nat) (w t:List Rat),(∀ k r,rs[k]? = some r→(∀ i,sz (r.v.getD i 0)+1≤4 ^ (j+k)*(B+1))∧∀ i,sz (r.c.getD i 0)+1≤4 ^ (j+k)*(B+1))→(∀ i,sz (w.getD i 0)+1≤4 ^ j*(B+1))→(∀ i,sz (t.getD i 0)+1≤4 ^ j*(B+1)) →
  ∀ i,sz ((redK rs w t).getD i 0)+1≤4 ^ (j+rs.length)*(B+1)
 | [],_,_,_,_,_,ht,i=>ht i
 | r :: rs, j, w, t, h, hw, ht, i => by
  have h0:=h 0 r rfl
  rw [Nat.add_zero] at h0
  have:=redK_szJ rs (j+1) (redStep w r) (lessQ t r.c (qotR w r)) (fun k q hq=>by
   have:=h (k+1) q hq
   rwa [show j+(k+1)=j+1+k by omega] at this) (fun i=>by
   have:=Go.AL.step_sz hw h0.1 i
   rwa [Nat.pow_succ,Nat.mul_comm (4 ^ j),Nat.mul_assoc]) (fun i=>by
   have h2:=qot_sz hw h0.1
   have:=lessQ_sz (t:=t) (c:=r.c) (q:=qotR w r) (T:=4 ^ j*(B+1)-1) (C:=3*(4 ^ j*(B+1))-3) (fun i=>by have:=ht i;omega) (fun i=>by have:=h0.2 i;omega) i
   have h3:=hw 0
   rw [Nat.pow_succ,Nat.mul_comm (4 ^ j),Nat.mul_assoc]
   omega) i
  rwa [redK,List.length_cons,show j+(rs.length+1)=j+1+rs.length by omega]
theorem RowsK.bounds {n N k:Nat}{rs:List SRow}{w:List Rat}(z:RowsK n N rs)(hk:k<rs.length)(zw:∀ i,sz (w.getD i 0)≤16777215) :
  (∀ i,sz ((redV (rs.take k) w).getD i 0)≤17179869183)∧(∀ i,sz ((redK (rs.take k) w (List.replicate N 0)).getD i 0)≤17179869183)∧(∀ i,sz ((rs.getD k default).v.getD i 0)≤17179869183)∧∀ i,sz ((rs.getD k default).c.getD i 0)≤17179869183:=by
 obtain ⟨h1,_,h3,h4⟩:=z.zr.bounds (n:=N) z.le hk zw
 refine ⟨h1,fun i=>?_,h3,h4⟩
 have ht:(rs.take k).length=k:=by rw [List.length_take];omega
 have hle:=z.le
 have hb:=four_pow_le (show k≤5 by omega)
 have h:=redK_szJ (B:=16777215) (rs.take k) 0 w (List.replicate N 0) (fun k r hk=>by rw [Nat.zero_add];exact (z.zr.take _) k r hk) (fun i=>by rw [Nat.pow_zero,Nat.one_mul];have:=zw i;omega) (fun i=>by rw [Nat.pow_zero,Nat.one_mul,rep_zero,sz_zero];decide) i
 rw [Nat.zero_add,ht] at h
 omega
theorem ref_Quo {x y:Raw}(hx:x.Ok)(hy:y.Ok)(h0:y.q≠0):FSpec P F.ref01_Quo [vRaw x,vRaw y] (vQ (x.q / y.q)):=by
 have a1:=q_sz hx hx.ln hx.ld (by decide)
 have a2:=q_sz hy hy.ln hy.ld (by decide)
 have sn1:=sz_num x.q
 have sn2:=sz_num y.q
 have sd1:=sz_den x.q
 have sd2:=sz_den y.q
 have hn0:y.q.num.natAbs≠0:=fun e=>h0 (Rat.num_eq_zero.1 (by omega))
 have m1:=len_mul x.q.num.natAbs y.q.den
 have m2:=len_mul x.q.den y.q.num.natAbs
 have dd0:=Nat.mul_ne_zero x.q.den_nz hn0
 have hp:=fr_div (s:=decide (x.q.num<0)) (t:=decide (y.q.num<0)) (a:=x.q.num.natAbs) x.q.den_nz y.q.den_nz hn0
 rw [fr_ofQ,fr_ofQ] at hp
 refine FSpec.intro fn.ref01_Quo (by rfl) (by rfl) (nb9 (by rfl)) fun E hE=>(AW.sg hE rfl (bxA rfl rfl fun b2=>(bxA rfl rfl fun b3=>(al z.Rat rfl fun b4=>(OL.nil (AW.seq (AW.dg 1 [0,1,2,3,4,5] order_free hE rfl (by kernel_rfl) (OI.of_OL (os:=[_,_,_,_,_,_]) rfl ?_))))))))
 refine ldPA ag.Rat rfl rfl (vs:=[_,_,_]) rfl (nb9 rfl) (clv rfl .rq1 (ref_Take (by assumption)) (ldPA ag.Rat rfl rfl (vs:=[_,_,_]) rfl (nb9 rfl) (clv rfl .rq1 (ref_Take (by assumption)) (sto sz.Rat rfl rfl rfl rfl rfl (nb9 rfl) (cells2:=[_,_,_]) rfl (sto sz.Rat rfl rfl rfl rfl rfl (nb9 rfl) (cells2:=[_,_,_]) rfl (OL.nil (AW.seq ?_)))))))
 refine AW.dg 1 [0,1,2,3,4,5,6,7,8,9,10,11,12,13,14,15,16] order_free hE rfl (by kernel_rfl) (OI.of_OL (os:=[_,_,_,_,_,_,_,_,_,_,_,_,_,_,_,_,_]) rfl ?_)
 refine faP fd.Rat_0 rfl rfl (ldPC ce.bool rfl rfl rfl (faP fd.Rat_0 rfl rfl (ldPC ce.bool rfl rfl rfl (neb bt.bool rfl rfl (faP fd.Rat_1 rfl rfl (ldPC ce.u32s rfl rfl rfl (ldPA ag.Rat rfl rfl (vs:=[_,_,_]) rfl (nb9 rfl) ?_)))))))
 refine clv rfl .rq1 (ref_den) (clv rfl vL (ref_timesN (a:=x.q.num.natAbs) (b:=y.q.den) (by omega) (by omega)) (ldPA ag.Rat rfl rfl (vs:=[_,_,_]) rfl (nb9 rfl) (clv rfl .rq1 (ref_den) (faP fd.Rat_1 rfl rfl (ldPC ce.u32s rfl rfl rfl (clv rfl vL (ref_timesN (a:=x.q.den) (b:=y.q.num.natAbs) (by omega) (by omega)) (clv rfl vL (ref_over (s:=(decide (x.q.num<0) != decide (y.q.num<0))) (by omega) (by omega) dd0) ?_)))))))
 rw [← hp]
 exact sto sz.Rat rfl rfl rfl rfl rfl (nb9 rfl) (cells2:=[_,_,_]) rfl (OL.nil (AW.ret (RetQ.r ⟨_,.cellA rfl rfl ag.Rat (nb9 rfl) .nil,.ag (.cons (.le vR) (.cons (.le vR) (.cons (.le vR) .nil)))⟩)))
theorem ref_Div {x y:Raw}(hx:x.Ok)(hy:y.Ok)(h0:y.q≠0):FSpec P F.ref01_Div [vRaw x,vRaw y] (.tup [vQ (x.q / y.q),.d (dI 0)]):=by
 refine FSpec.intro fn.ref01_Div (by rfl) (by rfl) (nb9 (by rfl)) fun E hE=>(AW.sg hE rfl (bxA rfl rfl fun b2=>(bxA rfl rfl fun b3=>(al z.Rat rfl fun b4=>(asD rfl (OL.nil (AW.seq ?_)))))))
 refine AW.sg hE rfl (ldPA ag.Rat rfl rfl (vs:=[_,_,_]) rfl (nb9 rfl) (clv rfl vL (ref_Sign hy) (c_eql rfl rfl rfl (OL.nil (AW.cond rfl (fun hno=>absurd hno (by rw [decide_eq_false fun e=>h0 (sgnQ_eq.1 e)];decide)) (fun _=>?_))))))
 refine AW.skip (AW.sg hE rfl (ldPA ag.Rat rfl rfl (vs:=[_,_,_]) rfl (nb9 rfl) (ldPA ag.Rat rfl rfl (vs:=[_,_,_]) rfl (nb9 rfl) (clv rfl vL (ref_Quo hx hy h0) (sto sz.Rat rfl rfl rfl rfl rfl (nb9 rfl) (cells2:=[_,_,_]) rfl (asD rfl (OL.nil ?_)))))))
 exact AW.ret (RetQ.r ⟨_,.cellA rfl rfl ag.Rat (nb9 rfl) (.tmp rfl .nil),_,.cons (.ag (.cons (.le vR) (.cons (.le vR) (.cons (.le vR) .nil)))) (.cons (.le vR) .nil),rfl⟩)
theorem ref_DivQ {x y:Rat}(hx:sz x≤68719476736)(hy:sz y≤68719476736)(h0:y≠0):FSpec P F.ref01_Div [vQ x,vQ y] (.tup [vQ (x / y),.d (dI 0)]):=by
 have h:=ref_Div (x:=ofQ x) (y:=ofQ y) (ofQ_ok (by omega)) (ofQ_ok (by omega)) (by rw [q_ofQ];exact h0)
 rw [q_ofQ,q_ofQ] at h;exact h
set_option maxHeartbeats 800000 in
theorem r22Dot {v u:List Rat}{n:Nat}(hv:v.length=n)(hu:u.length=n)(hn:n≤64)(zv:∀ i,sz (v.getD i 0)≤16777215)(zu:∀ i,sz (u.getD i 0)≤16777215):FSpec P F.ref22_Dot [.d (dQs v),.d (dQs u)] (vQ (dotF v u n)):=by
 refine FSpec.intro fn.ref22_Dot (by rfl) (by rfl) (nb9 (by rfl)) fun E hE=>(AW.sg hE rfl (al z.Rat rfl fun b4=>(OL.nil (AW.sg hE rfl (bd z.Rat pl.Rat (cs:=[_,_,_]) rfl (al z.Rat rfl fun b5=>(sto sz.Rat rfl rfl rfl rfl rfl (nb9 rfl) (cells2:=[_,_,_]) rfl ?_)))))))
 refine OL.nil (AW.seq (AW.sg hE rfl (asD rfl (OL.nil (AW.block (AW.boxW 5 (cellsQ 0) rfl vles_q ?_))))))
 refine AW.whileK (α:=Nat) [(0,_),(1,_),(4,_),(5,_)] [(4,_)] (fun i=>[(6,.d (dI i))]) (fun i=>[(5,.box b5 T.Rat (cellsQ (dotF v u i)))]) (fun i=>i≤n) (fun i=>n-i) 0 (.cons (knD rfl) (.cons (knD rfl) (.cons (knP rfl) (.cons (knP rfl) .nil)))) (.cons (owB rfl) .nil) ⟨Nat.zero_le _,.rq1,.cons rfl .nil⟩ ?_
 rintro i h1
 have h1:i≤n:=h1
 have z1:=zv i
 have z2:=zu i
 have z3:=sz_mul (v.getD i 0) (u.getD i 0)
 have z4:sz (dotF v u i)≤1+i*(33554430+1):=sumN_szL i fun j _=>by have:=sz_mul (v.getD j 0) (u.getD j 0);have:=zv j;have:=zu j;omega
 refine AW.seq (AW.sg hE rfl (mvD rfl (mvD rfl (lnL sl.Rats rfl rfl (c_lss rfl rfl rfl (OL.split 11 rfl (fun ha=>?_) (fun ha=>?_)))))))
 ·have ha:i<n:=by have:=dt9 ha;omega
  refine mvD rfl (OL.yes rfl (mvD rfl (OL.yes rfl (mvD rfl (OL.yes rfl (lnL sl.Rats rfl rfl (OL.yes rfl ?_)))))))
  refine c_lss rfl rfl (c:=true) (decide_eq_true (by omega)) (pkT rfl rfl (OL.nil (cnT rfl ?_)))
  refine AW.skip (AW.seq (AW.block (AW.dg 1 [0,1,2,3,4,5,6,7,8,9,10,11] order_free hE rfl (by kernel_rfl) (OI.of_OL (os:=[_,_,_,_,_,_,_,_,_,_,_,_]) rfl ?_))))
  refine ldPA ag.Rat rfl rfl (vs:=[_,_,_]) rfl (nb9 rfl) (mvD rfl (mvD rfl (ixLn sl.Rats 0 rfl rfl (by omega) rfl rfl (ldRA ag.Rat rfl (vs:=[_,_,_]) rfl (nb9 rfl) (mvD rfl (mvD rfl (ixLn sl.Rats 0 rfl rfl (by omega) rfl rfl ?_)))))))
  refine ldRA ag.Rat rfl (vs:=[_,_,_]) rfl (nb9 rfl) (clv rfl vL (ref_MulQ (x:=v.getD i 0) (y:=u.getD i 0) (by omega) (by omega)) (clv rfl vL (ref_AddQ (x:=dotF v u i) (y:=v.getD i 0*u.getD i 0) (by omega) (by omega)) (sto sz.Rat rfl rfl rfl rfl rfl (nb9 rfl) (cells2:=[_,_,_]) rfl (OL.nil (AW.rg hE rfl (mvD rfl (add_i64 rfl rfl (by omega) ?_)))))))
  exact asD rfl (OL.nil (AW.again (x:=i) (i+1) (by omega) ⟨by omega,Knows.app .rq4 .rq1,Owns.app (.cons rfl .nil) (.cons rfl .nil)⟩))
 ·have ha:¬ i<n:=by have:=df9 ha;omega
  obtain rfl:i=n:=by omega
  refine mvD rfl (OL.nd rfl (OL.nd rfl (OL.nd rfl (OL.nd rfl (pkF rfl rfl (OL.nil (cnF rfl ?_)))))))
  exact AW.exit (AW.sg hE rfl (ldPA ag.Rat rfl rfl (vs:=[_,_,_]) rfl (nb9 rfl) (sto sz.Rat rfl rfl rfl rfl rfl (nb9 rfl) (cells2:=[_,_,_]) rfl (OL.nil (AW.ret (RetQ.r ⟨_,.cellA rfl rfl ag.Rat (nb9 rfl) .nil,.ag (.cons (.le vR) (.cons (.le vR) (.cons (.le vR) .nil)))⟩))))))
theorem r23Numbers {l:List Rat}(nl:l.length≤64):FSpec P F.ref23_Numbers [.d (dWs l)] (.d (dQs l)):=by
 refine FSpec.intro fn.ref23_Numbers (by rfl) (by rfl) (nb9 (by rfl)) fun E hE=>(AW.sg hE rfl (asM rfl (OL.nil (AW.sg hE rfl (asM rfl (OL.nil (AW.seq ?_)))))))
 refine AW.seq (AW.own 3 18 T.Rat 3 rfl rfl (AW.rg hE rfl (asD rfl (OL.nil (AW.block ?_)))))
 refine AW.whileK (α:=Nat × Nat × Nat) [(0,_),(2,_)] [] (fun (i,bq,cq)=>[(3,.osl 18 bq i cq),(4,.d (dI i))]) (fun (i,bq,cq)=>[(18,.row bq cq T.Rat 3 ((l.take i).map dQ))]) (fun (i,bq,cq)=>i≤l.length) (fun (i,bq,cq)=>l.length-i) (0,0,0) (.cons (knD rfl) (.cons (knM rfl) .nil)) .nil ⟨Nat.zero_le _,.rq2,.cons rfl .nil⟩ ?_
 rintro ⟨i,bq,cq⟩ h1
 have h1:i≤l.length:=h1
 refine AW.seq (AW.sg hE rfl (mvD rfl (mvD rfl (lnL sl.Weights rfl rfl (c_lss rfl rfl rfl (OL.nil (AW.cond rfl (fun h8=>?_) (fun h8=>?_))))))))
 ·try simp only [dx9] at h8
  refine AW.skip (AW.seq (AW.block (AW.rg hE rfl (mvO rfl (mvD rfl (mvD rfl (ixLn sl.Weights 0 rfl rfl (by omega) rfl rfl ?_)))))))
  refine faR fd.Weight_0 rfl rfl (ldRA ag.Rat rfl (vs:=[_,_,_]) rfl (nb9 rfl) (lt1 (y:=dQ (l.getD i 0)) sl.Rats vd_q rfl (by decide) ?_))
  refine apO sl.Rats rfl rfl rfl (by rw [lm9,List.length_take];omega) (VC.d _) (fun y hy=>by rw [ms9 hy];rfl) (by simp only [ls9];omega) (by simp only [ls9];omega) (.inr rfl) (ys:=(l.take (i+1)).map dQ) (by rw [take_snoc9 0 (by omega),List.map_append];rfl) (n2:=i+1) rfl fun b18 c18=>?_
  exact asO rfl (OL.nil (AW.rg hE rfl (mvD rfl (add_i64 rfl rfl (by omega) (asD rfl (OL.nil (AW.again (x:=(i,bq,cq)) (i+1,b18,c18) (by (simp only [];omega)) ⟨by omega,Knows.app .rq2 .rq2,.cons rfl .nil⟩)))))))
 ·try simp only [dx9] at h8
  refine AW.exit (AW.seq ?_)
  obtain rfl:i=l.length:=by omega
  exact AW.rg hE rfl (mvO rfl (asO rfl (OL.nil (AW.ret (RetQ.r ⟨_,.tmp rfl .nil,RO.all rfl rfl (by simp) (by rw [List.take_length])⟩)))))
theorem r23lead {v:List Rat}(nl:v.length≤64)(hz:∀ i,sz (v.getD i 0)≤274877906944):FSpec P F.ref23_lead [.d (dQs v)] (.d (dI (leadI v))):=by
 refine FSpec.intro fn.ref23_lead (by rfl) (by rfl) (nb9 (by rfl)) fun E hE=>(AW.sg hE rfl (asD rfl (OL.nil (AW.seq (AW.sg hE rfl (asD rfl (OL.nil ?_)))))))
 refine AW.block (AW.whileK (α:=Nat) [(0,_)] [] (fun i=>[(3,.d (dI i))]) (fun i=>[]) (fun i=>i≤v.length∧∀ j,j<i→v.getD j 0=0) (fun i=>v.length-i) 0 (.cons (knD rfl) .nil) .nil ⟨⟨Nat.zero_le _,fun j hj=>by omega⟩,.rq1,.nil⟩ ?_)
 rintro i ⟨h1,h2⟩
 have h1:i≤v.length:=h1
 have h2:∀ j,j<i→v.getD j 0=0:=h2
 refine AW.seq (AW.sg hE rfl (mvD rfl (mvD rfl (lnL sl.Rats rfl rfl (c_lss rfl rfl rfl (OL.nil (AW.cond rfl (fun h7=>?_) (fun h7=>?_))))))))
 ·try simp only [dx9] at h7
  refine AW.skip (AW.seq (AW.block (AW.seq ?_)))
  have zx:=hz i
  refine AW.rg hE rfl (mvD rfl (mvD rfl (ixLn sl.Rats 0 rfl rfl (by omega) rfl rfl (ldRA ag.Rat rfl (vs:=[_,_,_]) rfl (nb9 rfl) (clv rfl vL (ref_SignQ (x:=v.getD i 0) (by omega)) (c_neq rfl rfl rfl (OL.nil ?_)))))))
  refine AW.cond rfl (fun hx=>?_) (fun hx=>?_)
  ·have hx:v.getD i 0≠0:=fun e=>nd_t hx (sgnQ_eq.2 e)
   exact AW.sg hE rfl (mvD rfl (asD rfl (OL.nil (AW.ret (RetQ.r ⟨_,.tmp rfl .nil,.le (VLe.int ((leadI_at (by omega) hx h2).symm))⟩)))))
  ·have hx:v.getD i 0=0:=sgnQ_eq.1 (nd_f hx)
   exact AW.skip (AW.rg hE rfl (mvD rfl (add_i64 rfl rfl (by omega) (asD rfl (OL.nil (AW.again (x:=i) (i+1) (by omega) ⟨⟨by omega,lead_next h2 hx⟩,Knows.app .rq1 .rq1,.nil⟩))))))
 ·try simp only [dx9] at h7
  exact AW.exit (AW.sg hE rfl (asD rfl (OL.nil (AW.ret (RetQ.r ⟨_,.tmp rfl .nil,.le (VLe.int ((leadI_end fun j hj=>h2 j (by omega)).symm))⟩)))))
end Go.Proofs.YtmcoihfkniccdaaGreatDoor
