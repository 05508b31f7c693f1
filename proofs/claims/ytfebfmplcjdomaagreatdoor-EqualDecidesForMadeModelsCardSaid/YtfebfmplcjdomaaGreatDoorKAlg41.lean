/-
  AL, part 41: a call that hands back one new block inside of what it answers.
-/
import Derived.Test.YtfebfmplcjdomaaGreatDoorKWkU
import Derived.Test.YtfebfmplcjdomaaGreatDoorKAlg38
set_option linter.unusedVariables false
set_option linter.unusedSimpArgs false
namespace Go.Proofs.YtfebfmplcjdomaaGreatDoor
open Go Go.AL
theorem eqbS {m:Nat} {ops:Array Oper} {K:S→Prop} {s:S} {dst:Option Nat} {ty:Nat} {pos:String} {after:Array Edge} {r:List Oper} {t yt:Nat} {x y:Operand} {a b:Bool} (hT:BoolT P t) (hx:s.ev x=.d (.sc (.bool a))) (hy:s.ev y=.d (.sc (.bool b))) (e:a=b) (h:OL P m ops K r (s.put dst (.d (.sc (.bool true))))):OL P m ops K (⟨dst,.binOp .eql t x y yt,ty,pos,after,none⟩ :: r) s :=
 eqb hT hx hy (by subst e;rw [beq_self_eq_true];exact h)
theorem r5SameT {l m:List Int} (nl:l.length≤1099511627776) (e:l=m):FSpec P F.ref05_Same [.d (ints l),.d (ints m)] (.d (dB true)):=by
 have h:=r5Same (l:=l) (m:=m) nl
 rwa [decide_eq_true e] at h
theorem take_auto {m:MModel}:Au.Take (autoOf m 2 3) 2 :=
 have ok:=auto_ok (m:=m) (sym:=2) (most:=3) (by decide) (by decide)
 have hs:=stOf_le (m:=m) (most:=3) (by decide)
 ⟨⟨ok,auto_sz.wide,rfl,(show 2≤32 by decide),(by show stOf m 3≤64;omega)⟩,auto_sz.few (by show stOf m 3≤6;omega),hs.1⟩
theorem take_letter {q:Rat} (hz:sz q≤1):Au.Take (letterOf q) 2 :=
 ⟨⟨letter_ok q,(letter_sz hz).wide,rfl,(show 2≤32 by decide),(show 2≤64 by decide)⟩,(letter_sz hz).few (show 2≤6 by decide),(show 1≤2 by decide)⟩
theorem eq_len {a b:Au} (t:Au.Take a 2) (u:Au.Take b 2):((eqA a b).getD []).length≤1099511627776:=by
 cases h:eqA a b with
 | none=>exact Nat.zero_le _
 | some w =>
  have h1:=(eqA_first t.fit.ok u.fit.ok (t.fit.sym.trans u.fit.sym.symm) h).2.2.2
  have:=t.few.st
  have:=u.few.st
  show w.length≤_
  omega
theorem auto6 {m n:MModel}:(autoOf m 2 3).st+(autoOf n 2 3).st≤6:=by
 have h1:=stOf_le (m:=m) (most:=3) (by decide)
 have h2:=stOf_le (m:=n) (most:=3) (by decide)
 show stOf m 3+stOf n 3≤6
 omega
theorem law23_ring  : FSpec P F.law23_ring [] (vRing):=by
 refine FSpec.intro fn.law23_ring (by rfl) (by rfl) (nb9 (by rfl)) fun E hE=>(AW.sg hE rfl (al z.Ring rfl fun b0=>(OL.nil (AW.sg hE rfl (bd z.Ring pl.Ring (cs:=[_,_]) rfl (sto sz.Ring rfl rfl rfl rfl rfl (nb9 rfl) (cells2:=[_,_]) rfl (OL.nil ?_)))))))
 exact AW.ret (RetQ.r ⟨_,.cellA rfl rfl ag.Ring (nb9 rfl) .nil,.ag (.cons (.le (VLe.refl _)) (.cons (.le (VLe.mt)) .nil))⟩)
theorem law23_plain {m:MModel} {e:Bool} (n1:m.ini.length≤9223372036854775807) (n2:m.fin.length≤9223372036854775807) (n3:m.arcs.length≤9223372036854775807):FSpec P F.law23_plain [vModelE m e] (vAu (autoOf m 2 3)):=by
 refine FSpec.intro fn.law23_plain (by rfl) (by rfl) (nb9 (by rfl)) fun E hE=>(AW.sg hE rfl (bxA rfl rfl fun b1=>(al z.Auto rfl fun b2=>(OL.nil (AW.sg hE rfl (faP fd.Model_4 rfl rfl (sto sz.bool rfl rfl rfl rfl rfl (nb9 rfl) (cells2:=[_,_,_,_,_]) rfl ?_)))))))
 refine OL.nil (AW.seq (AW.dg 1 [0,1,2,3] order_free hE rfl (by kernel_rfl) (OI.of_OL (os:=[_,_,_,_]) rfl ?_)))
 exact ldPA ag.Model rfl rfl (vs:=[_,_,_,_,_]) rfl (nb9 rfl) (clv rfl (.nil) (law23_ring) (clv rfl (.cons (VLe.refl _) (.cons (VLe.refl _) (.cons (VLe.refl _) (.cons (VLe.refl _) (.nil))))) (AutoI (m:=m) (sym:=2) (most:=3) (by decide) (by decide) n1 n2 n3) (sto sz.Auto rfl rfl rfl rfl rfl (nb9 rfl) (cells2:=[_,_,_,_,_,_,_]) rfl (OL.nil (AW.ret (RetQ.r ⟨_,.cellA rfl rfl ag.Auto (nb9 rfl) .nil,.ag (.cons (.le (VLe.refl _)) (.cons (.le (VLe.refl _)) (.cons (.le (VLe.refl _)) (.cons (.le (VLe.refl _)) (.cons (.le (VLe.refl _)) (.cons (.le (VLe.refl _)) (.cons (.le (VLe.refl _)) .nil)))))))⟩))))))
theorem law23_awake  : FSpec P F.law23_awake [] (.d (dB true)):=by
 refine FSpec.intro fn.law23_awake (by rfl) (by rfl) (nb9 (by rfl)) fun E hE=>(AW.sg hE rfl (asD rfl (OL.nil (AW.sg hE rfl (clv rfl (.nil) (law23_ring) (clv rfl .rq2 (ref_OfQ (n:=1) (d:=2) (by decide) (by decide) (by decide)) ?_))))))
 rw [half_q]
 refine bd z.Weight pl.Weight (cs:=[_,_,_,_,_,_,_,_]) rfl (clv rfl (.cons (VLe.refl _) (.cons (VLe.refl _) (.cons (VLe.refl _) (.cons (vle_wq) .nil)))) (r6Letter (q:=1 / 2) half_szL half_n0) (mvT rfl (ex rfl rfl (ex rfl rfl (al z.Auto rfl fun b1=>(sto sz.Auto rfl rfl rfl rfl rfl (nb9 rfl) (cells2:=[_,_,_,_,_,_,_]) rfl (asD rfl ?_)))))))
 refine OL.nil (AW.sg hE rfl (clv rfl (.nil) (law23_ring) (clv rfl .rq2 (ref_OfQ (n:=1) (d:=3) (by decide) (by decide) (by decide)) ?_)))
 rw [third_q]
 refine bd z.Weight pl.Weight (cs:=[_,_,_,_,_,_,_,_]) rfl (clv rfl (.cons (VLe.refl _) (.cons (VLe.refl _) (.cons (VLe.refl _) (.cons (vle_wq) .nil)))) (r6Letter (q:=1 / 3) third_szL third_n0) (mvT rfl (ex rfl rfl (ex rfl rfl (al z.Auto rfl fun b3=>(sto sz.Auto rfl rfl rfl rfl rfl (nb9 rfl) (cells2:=[_,_,_,_,_,_,_]) rfl (asD rfl ?_)))))))
 refine OL.nil (AW.sg hE rfl (ldPA ag.Auto rfl rfl (vs:=[_,_,_,_,_,_,_]) rfl (nb9 rfl) (ldPA ag.Auto rfl rfl (vs:=[_,_,_,_,_,_,_]) rfl (nb9 rfl) (clv rfl (.cons (VLe.refl _) (.cons (VLe.refl _) (.nil))) (EqualA (a:=letterOf (1 / 2)) (b:=letterOf (1 / 3)) (take_letter half_szL) (take_letter third_szL) (by decide) (show 2+2≤6 by decide)) ?_))))
 rw [let_eq]
 refine mvT rfl (ex rfl rfl (ex rfl rfl (ex rfl rfl (asD rfl (asD rfl (asD rfl (OL.nil ?_)))))))
 refine AW.sg hE rfl (ldPA ag.Auto rfl rfl (vs:=[_,_,_,_,_,_,_]) rfl (nb9 rfl) (clv rfl (.cons (VLe.refl _) (.nil)) (RankA (a:=letterOf (1 / 2)) (take_letter half_szL) (by decide)) ?_))
 rw [let_rank]
 refine mvT rfl (ex rfl rfl (ex rfl rfl (asD rfl (asD rfl (OL.nil (AW.sg hE rfl (mvD rfl ?_)))))))
 refine c_eql rfl rfl (c:=true) (decide_eq_true rfl) (mvD rfl (OL.yes rfl (mvD (y:=dB false) rfl (OL.yes rfl (nt rfl (pkT rfl rfl (mvD rfl ?_)))))))
 refine OL.yes rfl (mvD rfl (OL.yes rfl (lt1 (y:=dI 1) sl.ints (VC.d _).vd rfl (by decide) (OL.yes rfl (clv rfl (.cons (VLe.refl _) (.cons (VLe.refl _) (.nil))) (r5SameT (l:=[1]) (m:=[1]) (by decide) rfl) (pkT rfl rfl (mvD rfl ?_)))))))
 refine OL.yes rfl (mvD rfl (OL.yes rfl (c_eql rfl rfl (c:=true) (decide_eq_true rfl) (pkT rfl rfl (mvD rfl (OL.yes rfl (mvD rfl ?_)))))))
 exact OL.yes rfl (c_eql rfl rfl (c:=true) (decide_eq_true rfl) (pkT rfl rfl (asD rfl (OL.nil (AW.ret (RetQ.r ⟨_,.tmp rfl .nil,.le (VLe.refl _)⟩))))))
end Go.Proofs.YtfebfmplcjdomaaGreatDoor

set_option linter.unusedVariables false
set_option linter.unusedSimpArgs false
namespace Go.AL
open Go Go.BigFrame
section
variable {a b:Au} {B N K:Nat} {q:Rat} {s i j:Nat}
theorem moved_len (l:List Arc9) (n:Nat):(moved l n).length=l.length:=List.length_map ..
theorem moved_sz {l:List Arc9} (n:Nat) (h:∀ x,x ∈ l→sz x.q≤B):∀ x,x ∈ moved l n→sz x.q≤B:=fun y hy=>by
 obtain ⟨x,hx,rfl⟩:=List.mem_map.1 hy
 exact h x hx
theorem Au.Sz.union (h:a.Sz B N) (k:b.Sz B K) (hn:N+K≤20) (hB:B≤1000):(unionOf a b).Sz 1048576 20:=by
 have hl:(moved a.arcs 0 ++ moved b.arcs a.st).length≤20:=by
  rw [List.length_append,moved_len,moved_len]
  have:=h.num;have:=k.num;omega
 refine ⟨fun q hq=>?_,fun q hq=>?_,fun x hx=>?_,Nat.le_trans (formA_len _) hl⟩
 ·rcases List.mem_append.1 hq with hq | hq
  ·have:=h.ini q hq;omega
  ·have:=k.ini q hq;omega
 ·rcases List.mem_append.1 hq with hq | hq
  ·have:=h.fin q hq;omega
  ·have:=k.fin q hq;omega
 ·have h1:=formA_sz (B:=B) (l:=moved a.arcs 0 ++ moved b.arcs a.st) (fun y hy=>by
   rcases List.mem_append.1 hy with hy | hy
   ·exact moved_sz 0 h.arc y hy
   ·exact moved_sz a.st k.arc y hy) x hx
  have h2:=Nat.mul_le_mul (show (moved a.arcs 0 ++ moved b.arcs a.st).length+1≤21 by omega) (show B+2≤1002 by omega)
  omega
theorem Au.Sz.scale (h:a.Sz 1 10) (hq:sz q≤1):(scaleOf a q).Sz 40 10:=by
 refine ⟨fun y hy=>?_,fun y hy=>Nat.le_trans (h.fin y hy) (by decide),fun x hx=>?_,Nat.le_trans (formA_len a.arcs) h.num⟩
 ·obtain ⟨x,hx,rfl⟩:=List.mem_map.1 hy
  have h1:=sz_mul x q
  have h2:=h.ini x hx
  show sz (x * q)≤40
  omega
 ·have h1:=formA_sz h.arc x hx
  have h2:=Nat.mul_le_mul_right (1+2) (show a.arcs.length+1≤11 by have:=h.num;omega)
  omega
theorem Au.Sz.rev (h:a.Sz 1 10):(revOf a).Sz 40 10:=by
 have hl:(a.arcs.map fun x=>(⟨x.t,x.l,x.f,x.q⟩:Arc9)).length=a.arcs.length:=List.length_map ..
 refine ⟨fun y hy=>Nat.le_trans (h.fin y hy) (by decide),fun y hy=>Nat.le_trans (h.ini y hy) (by decide),fun x hx=>?_,Nat.le_trans (formA_len _) (by rw [hl];exact h.num)⟩
 have hy9:∀ y,y ∈ (a.arcs.map fun x=>(⟨x.t,x.l,x.f,x.q⟩:Arc9))→sz y.q≤1:=fun y hy=>by
  obtain ⟨x,hx,rfl⟩:=List.mem_map.1 hy
  exact h.arc x hx
 have h1:sz x.q≤_:=formA_sz hy9 x hx
 have h2:=Nat.mul_le_mul_right (1+2) (show (a.arcs.map fun x=>(⟨x.t,x.l,x.f,x.q⟩:Arc9)).length+1≤11 by rw [hl];have:=h.num;omega)
 omega
theorem Au.Sz.up {B2 N2:Nat} (h:a.Sz B N) (hb:B≤B2) (hn:N≤N2):a.Sz B2 N2 :=
 ⟨fun q hq=>Nat.le_trans (h.ini q hq) hb,fun q hq=>Nat.le_trans (h.fin q hq) hb,fun x hx=>Nat.le_trans (h.arc x hx) hb,Nat.le_trans h.num hn⟩
theorem Au.Few.union (h:a.Few) (k:b.Few) (ha:a.Ok) (hn:a.st+b.st≤6):(unionOf a b).Few:=by
 refine ⟨hn,fun q hq=>?_,fun q hq=>?_,fun s i j=>?_⟩
 ·rcases List.mem_append.1 hq with hq | hq
  ·exact h.ini q hq
  ·exact k.ini q hq
 ·rcases List.mem_append.1 hq with hq | hq
  ·exact h.fin q hq
  ·exact k.fin q hq
 ·show sz (entA (formA _) s i j)≤24
  rw [entA_form,entA_app,entA_moved,entA_moved,if_pos ⟨Nat.zero_le _,Nat.zero_le _⟩,Nat.sub_zero,Nat.sub_zero]
  by_cases hc:a.st≤i∧a.st≤j
  ·rw [if_pos hc,entA_out (l:=a.arcs) (n:=a.st) (fun x hx=>⟨(ha.arc x hx).1,(ha.arc x hx).2.1⟩) (.inl hc.1),Rat.zero_add]
   exact k.ent ..
  ·rw [if_neg hc,Rat.add_zero]
   exact h.ent ..
theorem Au.Few.scale (h:a.Few) (hi:Small 20 a.ini) (hq:sz q≤1):(scaleOf a q).Few:=by
 refine ⟨h.st,fun y hy=>?_,h.fin,fun s i j=>?_⟩
 ·obtain ⟨x,hx,rfl⟩:=List.mem_map.1 hy
  have h1:=sz_mul x q
  have h2:=hi x hx
  show sz (x * q)≤24
  omega
 ·show sz (entA (formA _) s i j)≤24
  rw [entA_form];exact h.ent ..
theorem entA_swap {l:List Arc9}:entA (l.map fun x=>(⟨x.t,x.l,x.f,x.q⟩:Arc9)) s i j=entA l s j i:=by
 unfold entA
 rw [lsum_map]
 refine lsum_congr fun x _=>?_
 show (if x.t=i∧x.l=s+1∧x.f=j then x.q else 0)=if x.f=j∧x.l=s+1∧x.t=i then x.q else 0
 by_cases hc:x.f=j∧x.l=s+1∧x.t=i
 ·rw [if_pos hc,if_pos ⟨hc.2.2,hc.2.1,hc.1⟩]
 ·rw [if_neg hc,if_neg fun hd=>hc ⟨hd.2.2,hd.2.1,hd.1⟩]
theorem Au.Few.rev (h:a.Few):(revOf a).Few:=⟨h.st,h.fin,h.ini,fun s i j=>by
 show sz (entA (formA _) s i j)≤24
 rw [entA_form,entA_swap];exact h.ent ..⟩
end
end Go.AL

set_option linter.unusedVariables false
set_option linter.unusedSimpArgs false
namespace Go.AL
open Go Go.BigFrame
section
variable {a b:Au} {n s i j k:Nat} {v w out:List Rat} {l:List Arc9} {x:Arc9}
theorem take_snoc9 {α:Type} (d:α) {l:List α} {i:Nat} (h:i < l.length):l.take (i+1)=l.take i ++ [l.getD i d]:=by
 rw [List.take_succ_eq_append_getElem h,List.getD_eq_getElem?_getD,List.getElem?_eq_getElem h];rfl
def addF (v:List Rat) (s:Nat) (out:List Rat) (x:Arc9):List Rat:=if x.l=s then out.set x.t (out.getD x.t 0+v.getD x.f 0 * x.q) else out
def stepF (n:Nat) (v:List Rat) (s:Nat) (l:List Arc9):List Rat:=l.foldl (addF v s) (List.replicate n 0)
theorem addF_len:(addF v s out x).length=out.length:=by unfold addF;split <;> simp
theorem stepF_len:(stepF n v s l).length=n:=by
 have:∀ (l:List Arc9) (out:List Rat),(l.foldl (addF v s) out).length=out.length:=fun l=>by
  induction l with
  | nil=>exact fun _=>rfl
  | cons x l ih=>exact fun out=>by rw [List.foldl_cons,ih,addF_len]
 unfold stepF
 rw [this,List.length_replicate]
theorem stepF_snoc (h:i < l.length):stepF n v s (l.take (i+1))=addF v s (stepF n v s (l.take i)) (l.getD i default):=by
 unfold stepF
 rw [take_snoc9 default h,List.foldl_append];rfl
theorem getD_set9 {l:List Rat} {y:Rat} (hi:i < l.length):(l.set i y).getD j 0=if i=j then y else l.getD j 0:=by
 rw [List.getD_eq_getElem?_getD,List.getElem?_set,List.getD_eq_getElem?_getD]
 by_cases h:i=j
 ·subst h;rw [if_pos rfl,if_pos hi,if_pos rfl];rfl
 ·rw [if_neg h,if_neg h]
def inF (v:List Rat) (s j:Nat) (x:Arc9):Rat:=if x.l=s∧x.t=j then v.getD x.f 0 * x.q else 0
theorem foldF_get:∀ (l:List Arc9) (out:List Rat),(∀ x,x ∈ l→x.t < out.length)→(l.foldl (addF v s) out).getD j 0=out.getD j 0+lsum (inF v s j) l
 | [],out,_=>by rw [List.foldl_nil,lsum,Rat.add_zero]
 | x :: l, out, h => by
  have hx:=h x (List.mem_cons_self ..)
  rw [List.foldl_cons,foldF_get l _ (fun y hy=>by rw [addF_len];exact h y (List.mem_cons_of_mem _ hy)),lsum,← Rat.add_assoc]
  congr 1
  unfold addF inF
  by_cases hl:x.l=s
  ·rw [if_pos hl,getD_set9 hx]
   by_cases ht:x.t=j
   ·rw [if_pos ht,if_pos ⟨hl,ht⟩,ht]
   ·rw [if_neg ht,if_neg (fun e=>ht e.2),Rat.add_zero]
  ·rw [if_neg hl,if_neg (fun e=>hl e.1),Rat.add_zero]
theorem rep_get:(List.replicate n (0:Rat)).getD j 0=0:=by
 rw [List.getD_eq_getElem?_getD,List.getElem?_replicate]
 split <;> rfl
theorem stepF_get (h:∀ x,x ∈ l→x.t < n):(stepF n v s l).getD j 0=lsum (inF v s j) l:=by
 unfold stepF
 rw [foldF_get l _ (fun x hx=>by rw [List.length_replicate];exact h x hx),rep_get,Rat.zero_add]
theorem sum_ent (l:List Arc9) (hf:∀ x,x ∈ l→x.f < n):sumN (fun i=>v.getD i 0 * entA l k i j) n=lsum (inF v (k+1) j) l:=by
 induction l with
 | nil=>rw [lsum];exact sumN_zero fun i _=>by rw [entA_nil,Rat.mul_zero]
 | cons x l ih =>
  rw [lsum,← ih fun y hy=>hf y (List.mem_cons_of_mem _ hy)]
  have e:(fun i=>v.getD i 0 * entA (x :: l) k i j)=fun i=>v.getD i 0 * pickA k i j x+v.getD i 0 * entA l k i j:=by
   funext i
   rw [entA_cons,Rat.mul_add]
  rw [e,sumN_add]
  congr 1
  unfold inF
  by_cases hc:x.l=k+1∧x.t=j
  ·rw [if_pos hc]
   have e2:(fun i=>v.getD i 0 * pickA k i j x)=fun i=>if x.f=i then v.getD i 0 * x.q else 0:=by
    funext i
    unfold pickA
    by_cases hi:x.f=i
    ·rw [if_pos ⟨hi,hc.1,hc.2⟩,if_pos hi]
    ·rw [if_neg (fun e=>hi e.1),if_neg hi,Rat.mul_zero]
   rw [e2,sumN_pick (v:=fun i=>v.getD i 0 * x.q) (hf x (List.mem_cons_self ..))]
  ·rw [if_neg hc]
   exact sumN_zero fun i _=>by
    unfold pickA
    rw [if_neg (fun e=>hc ⟨e.2.1,e.2.2⟩),Rat.mul_zero]
theorem stepF_step (ha:a.Ok) (s1:1≤s) (s2:s≤a.sym):stepF a.st v s a.arcs=stepM (machL [a]) v (s - 1):=by
 have hn:(machL [a]).n=a.st:=size_one
 refine List.ext_getElem (by rw [stepF_len,stepM_len,hn]) fun j h1 h2=>?_
 rw [stepF_len] at h1
 have e1:(stepF a.st v s a.arcs)[j]=(stepF a.st v s a.arcs).getD j 0:=by rw [List.getD_eq_getElem?_getD,List.getElem?_eq_getElem];rfl
 have e2:(stepM (machL [a]) v (s - 1))[j]=(stepM (machL [a]) v (s - 1)).getD j 0:=by rw [List.getD_eq_getElem?_getD,List.getElem?_eq_getElem];rfl
 rw [e1,e2,stepF_get fun x hx=>(ha.arc x hx).2.1]
 unfold stepM
 rw [hn,map_getD_range _ _ h1]
 have e3:s - 1+1=s:=by omega
 rw [show lsum (inF v s j) a.arcs=lsum (inF v (s - 1+1) j) a.arcs by rw [e3],← sum_ent (n:=a.st) a.arcs fun x hx=>(ha.arc x hx).1]
 refine sumN_congr fun i hi=>?_
 rw [machL_ent (l:=[a]) (by show s - 1 < a.sym;omega) (by rw [size_one];exact hi) (by rw [size_one];exact h1)]
 show _=_ * (if i < a.st then (if j < a.st then entA a.arcs (s - 1) i j else 0) else _)
 rw [if_pos hi,if_pos h1]
def fwA (a:Au) (u:List Int):List Rat:=u.foldl (fun v x=>stepF a.st v x.toNat a.arcs) a.ini
theorem fwA_snoc {u:List Int} (h:i < u.length):fwA a (u.take (i+1))=stepF a.st (fwA a (u.take i)) (u.getD i 0).toNat a.arcs:=by
 unfold fwA
 rw [take_snoc9 0 h,List.foldl_append];rfl
theorem fwA_len (ha:a.Ok) (u:List Int):(fwA a u).length=a.st:=by
 have:∀ (u:List Int) (v:List Rat),v.length=a.st→(u.foldl (fun v x=>stepF a.st v x.toNat a.arcs) v).length=a.st:=fun u=>by
  induction u with
  | nil=>exact fun _ h=>h
  | cons x u ih=>exact fun v _=>ih _ stepF_len
 exact this u a.ini ha.ini
theorem fwA_vec (ha:a.Ok) {u:List Int} (hu:InW a.sym u):fwA a u=vecM (machL [a]) u:=by
 have:∀ (u:List Int) (v:List Rat),InW a.sym u→u.foldl (fun v x=>stepF a.st v x.toNat a.arcs) v=u.foldl (fun v x=>stepM (machL [a]) v (x.toNat - 1)) v:=fun u=>by
  induction u with
  | nil=>exact fun _ _=>rfl
  | cons x u ih =>
   intro v hx
   have h1:=hx x (List.mem_cons_self ..)
   rw [List.foldl_cons,List.foldl_cons,stepF_step ha (by omega) (by omega)]
   exact ih _ fun y hy=>hx y (List.mem_cons_of_mem _ hy)
 unfold fwA vecM
 rw [this u a.ini hu,show (machL [a]).ini=a.ini from List.append_nil _]
def dotF (v w:List Rat) (i:Nat):Rat:=sumN (fun i=>v.getD i 0 * w.getD i 0) i
theorem dotF_ser (ha:a.Ok) {u:List Int} (hu:InW a.sym u):dotF (fwA a u) a.fin a.st=serA a u:=by
 rw [fwA_vec ha hu]
 unfold dotF serA wtM dotM
 rw [show (machL [a]).n=a.st from size_one,show (machL [a]).fin=a.fin from List.append_nil _]
theorem stepF_sz {B:Nat} (hv:∀ i,sz (v.getD i 0)≤B) (hl:∀ x,x ∈ l→x.t < n∧sz x.q≤1) (h10:l.length≤10):sz ((stepF n v s l).getD j 0)≤10 * (B+2)+1:=by
 rw [stepF_get fun x hx=>(hl x hx).1]
 have h1:=lsum_szA (f:=inF v s j) (C:=B+1) (l:=l) fun x hx=>by
  unfold inF
  split
  ·have:=sz_mul (v.getD x.f 0) x.q
   have:=hv x.f
   have:=(hl x hx).2
   omega
  ·rw [sz_zero];omega
 have h2:=Nat.mul_le_mul_right (B+1+1) h10
 omega
theorem small_get {B:Nat} {v:List Rat} (h:Small B v) (h1:1≤B) (i:Nat):sz (v.getD i 0)≤B:=by
 rw [List.getD_eq_getElem?_getD]
 cases hg:v[i]? with
 | none=>show sz 0≤B;rw [sz_zero];exact h1
 | some q=>exact h q (List.mem_of_getElem? hg)
end
end Go.AL

set_option linter.unusedVariables false
set_option linter.unusedSimpArgs false
set_option linter.unusedVariables false
set_option linter.unusedSimpArgs false
namespace Go.AL
open Go Go.BigFrame
section
variable {P:Program} {E:Env} {K:S→Prop} {s:S} {ty:Nat} {pos:String} {after:Array Edge}
theorem After.new1 {F F':Hp} {w w':World} {i:Nat} {blk:Blk} (h:After F noMem w F' (mem1 i blk) w'):Ext F w F' w' ∧ BlkOK F' w' blk∧∀ k,blk.owns k→w.heap.size≤k∧F' k=Option.none:=by
 have e:mem1 i blk i=some blk:=by unfold mem1;rw [if_pos rfl]
 exact ⟨⟨h.grow.mono fun i x=>owned_none i x,h.le,h.sim.imm,fun k p q=>(h.new k p q).resolve_right (owned_none k)⟩,h.sim.own i blk e,
  fun k hk=>⟨(h.mnew k ⟨i,blk,e,hk⟩).resolve_right (owned_none k),h.sim.apart i blk k e hk⟩⟩
theorem SO.callNew {α:Type} {f:Operand} {args:Array Operand} {ats:Array TypeId} {fid id:Nat} {caps args':List V} {blk:α→Blk} {res:α→V} {φ:α→Prop} {dst:Option Nat} {g:Option (Nat × Bool)} (hd:Below' E.n dst)
  (hf:s.ev f=.fn fid caps) (ha:VLes (args.toList.map s.ev ++ caps) args') (hs:FSpecE P fid args' noMem res (fun x=>mem1 id (blk x)) φ)
  (h:∀ x,φ x→K ((⟨s.ρ,upd s.M id (some (blk x))⟩:S).put dst (res x))):SO P E ⟨dst,.call { callee:=.value f,args:=args,argTypes:=ats },ty,pos,after,g⟩ K s:=fun F a w hr=>by
 have hf':=hr.eval f;rw [hf] at hf'
 generalize haf:a.eval f=af at hf'
 cases hf' with
 | @fn _ us _ hl hrr =>
  have hvs:SimVs F (args.toList.map a.eval ++ us) args':=simVs_le (simVs_app (simVs_map hr.eval _) ⟨hl,hrr⟩) ha
  have hcc:=hs.2 F w _ (sim_none hr.sim.imm) hvs
  unfold execOp
  have e1:(args.map a.eval ++ us.toArray)=(args.toList.map a.eval ++ us).toArray:=by simp
  simp only [resolve,haf,Deferred.ofValue,Sem.run_bind,Sem.run_pure,Result.andThen_ok,invoke,Array.empty_append,e1,run_call_fn hs.1]
  refine hcc.mono fun e2 w' ⟨x,hφ,v,F',he,hA,hv⟩=>?_
  obtain ⟨hx,hok,hfr⟩:=hA.new1
  exact ⟨v,he,F',_,hr.after_put (dst:=dst) (After.of_new hr.sim hx id _ hok hfr) hd (v:=res x) hv,h x hφ⟩
theorem RO.all {M Mk:Mem} {id b n c e sz:Nat} {es:List D} {d:D} (hM:M id=some (.row b c e sz es)) (hk:Mk id=Option.none) (hn:n=es.length) (hd:d=.sl es):RO M Mk (.osl id b n c) (.d d):=by
 subst hn hd
 have h:=RO.osl (M:=M) (Mk:=Mk) hM hk (Nat.le_refl es.length)
 rwa [List.take_length] at h
end
end Go.AL
