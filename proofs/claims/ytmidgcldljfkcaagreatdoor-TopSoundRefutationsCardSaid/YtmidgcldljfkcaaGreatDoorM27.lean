/- The rules of natural deduction are sound: each rule. Plain. -/
import Derived.Test.YtmidgcldljfkcaaGreatDoorM01
import Derived.Test.YtmidgcldljfkcaaGreatDoorM23
namespace Go.Proofs.YtmidgcldljfkcaaGreatDoor
set_option maxRecDepth 100000
set_option maxHeartbeats 128000000
open Go.RowKit
section
variable {M:KM} {base:List Nd} {w:M.W} {k:Nat} {n:Nd}
theorem tr_one4(hc:check base=0)(hk:base[k]?=some n)(ho:n.op=4):M.sat (tr base k) w↔¬M.sat (tr base n.x.toNat) w:=by
 rw [tr_eq (check_wf hc) hk];obtain⟨op,a,e,g,x,y⟩:=n;obtain rfl:op=4:=ho;simp [mkTr,hasX,hasY,KM.sat,Nd.head,Nd.with_]
theorem tr_two8(hc:check base=0)(hk:base[k]?=some n)(ho:n.op=8):M.sat (tr base k) w↔(M.sat (tr base n.x.toNat) w↔M.sat (tr base n.y.toNat) w):=by
 rw [tr_eq (check_wf hc) hk];obtain⟨op,a,e,g,x,y⟩:=n;obtain rfl:op=8:=ho;simp [mkTr,hasX,hasY,KM.sat,Nd.head,Nd.with_]
end
section
variable {M:KM} {w:M.W} {f g fi:List Nd}
theorem sem_imp(h:check (impN f g)=0):check f=0/\check g=0/\(M.sat (treeOf (impN f g)) w↔(M.sat (treeOf f) w->M.sat (treeOf g) w)):=by
 obtain⟨h1,h2,e⟩:=binT (n:=⟨7,0,0,0,0,0⟩) rfl rfl ⟨rfl,rfl,rfl,fun _=>rfl,fun _=>rfl⟩ rfl h;exact⟨h1,h2,by rw [show treeOf (impN f g)=_ from e];simp [KM.sat]⟩
theorem last_at(hc:check f=0):f[f.length - 1]?=some (lastN f):=lastN_get (by have:=(check_parts hc).1;omega)
theorem opx(hc:check f=0)(ho:hasX (lastN f).op=true):∃k:Nat,(lastN f).x=(k:Int)/\k < f.length/\(lastN f).x.toNat=k:=by
 obtain⟨hx,_⟩:=check_wf hc _ _ (last_at hc);obtain⟨h0,h1⟩:=hx ho;exact⟨(lastN f).x.toNat,by omega,by omega,rfl⟩
theorem opy(hc:check f=0)(ho:hasY (lastN f).op=true):∃k:Nat,(lastN f).y=(k:Int)/\k < f.length/\(lastN f).y.toNat=k:=by
 obtain⟨_,hy⟩:=check_wf hc _ _ (last_at hc);obtain⟨h0,h1⟩:=hy ho;exact⟨(lastN f).y.toNat,by omega,by omega,rfl⟩
theorem sub_tree(hc:check f=0) {k:Nat}(hk:k < f.length):check (subN f k)=0/\treeOf (subN f k)=tr f k:=by
 refine⟨(sub_props hc hk).2.1,?_⟩;rw [subN_tree hc hk];exact treeOf_canon (tr_ok (check_wf hc) k hk)
theorem last_x(hc:check f=0)(ho:hasX (lastN f).op=true):check (subN f (lastN f).x)=0/\treeOf (subN f (lastN f).x)=tr f (lastN f).x.toNat:=by
 obtain⟨k,h1,h2,h3⟩:=opx hc ho;rw [h3,h1];exact sub_tree hc h2
theorem last_y(hc:check f=0)(ho:hasY (lastN f).op=true):check (subN f (lastN f).y)=0/\treeOf (subN f (lastN f).y)=tr f (lastN f).y.toNat:=by
 obtain⟨k,h1,h2,h3⟩:=opy hc ho;rw [h3,h1];exact sub_tree hc h2
theorem part_op {op:Int} {r:List Nd×List Nd}(h:partL f op=some r):(lastN f).op=op/\r=(subN f (lastN f).x,subN f (lastN f).y):=by
 unfold partL at h;cases e:(lastN f).op==op
 ·rw [e]at h;cases h
 rw [e]at h;injection h with h;exact⟨by simpa using e,h.symm⟩
theorem part_and {r:List Nd×List Nd}(hc:check f=0)(h:partL f 5=some r):M.sat (treeOf f) w↔M.sat (treeOf r.1) w/\M.sat (treeOf r.2) w:=by
 obtain⟨ho,rfl⟩:=part_op h;rw [(last_x hc (by rw [ho];rfl)).2,(last_y hc (by rw [ho];rfl)).2];exact tr_two5 hc (last_at hc) ho
theorem part_or {r:List Nd×List Nd}(hc:check f=0)(h:partL f 6=some r):M.sat (treeOf f) w↔M.sat (treeOf r.1) w\/M.sat (treeOf r.2) w:=by
 obtain⟨ho,rfl⟩:=part_op h;rw [(last_x hc (by rw [ho];rfl)).2,(last_y hc (by rw [ho];rfl)).2];exact tr_two6 hc (last_at hc) ho
theorem part_iff {r:List Nd×List Nd}(hc:check f=0)(h:partL f 8=some r):M.sat (treeOf f) w↔(M.sat (treeOf r.1) w↔M.sat (treeOf r.2) w):=by
 obtain⟨ho,rfl⟩:=part_op h;rw [(last_x hc (by rw [ho];rfl)).2,(last_y hc (by rw [ho];rfl)).2];exact tr_two8 hc (last_at hc) ho
theorem last_know(hc:check f=0)(ho:(lastN f).op=9):M.sat (treeOf f) w↔∀v,M.R (lastN f).i w v->M.sat (treeOf (subN f (lastN f).x)) v:=by
 rw [(last_x hc (by rw [ho];rfl)).2];exact tr_one9 hc (last_at hc) ho
theorem last_poss(hc:check f=0)(ho:(lastN f).op=10):M.sat (treeOf f) w↔∃v,M.R (lastN f).i w v/\M.sat (treeOf (subN f (lastN f).x)) v:=by
 rw [(last_x hc (by rw [ho];rfl)).2];exact tr_one10 hc (last_at hc) ho
theorem head_i(hc:check f=0)(ho:(lastN f).op=9\/(lastN f).op=10):0<=(lastN f).i/\(lastN f).i < 4 :=
 head_agent' (heads_of hc _ (List.mem_of_getElem? (last_at hc))) (by rcases ho with h|h <;> rw [h] <;> rfl)
theorem dual_sem(hf:check f=0)(hg:check g=0)(h:isDualL f g=true):M.sat (treeOf f) w↔M.sat (treeOf g) w:=by
 unfold isDualL at h;cases ho:(lastN f).op==10
 ·rw [ho]at h;cases h
 rw [ho,cond_true]at h;have ho:=eq_of_beq ho;have hi:=head_i hf (.inr ho);have e:=eqN_eq h;rw [<-e]at hg⊢;obtain⟨c1,s1⟩:=sem_not (M:=M) (w:=w) hg;obtain⟨c2,s2⟩:=sem_know (M:=M) (w:=w) hi.1 hi.2 c1;have s3:=fun u=>(sem_not (M:=M) (w:=u) c2).2
 rw [s1,s2,last_poss hf ho];constructor
 ·rintro⟨u,h1,h2⟩ hall;exact(s3 u).1 (hall u h1) h2
 intro hn;refine Classical.byContradiction fun hne=>hn fun u hu=>(s3 u).2 fun hs=>hne ⟨u,hu,hs⟩
theorem inL_in {l:List Int} {lg:Int}(h:inL l lg=true):lg∈l:=of_decide_eq_true h
theorem imp_sem {lg:Int}(hM:M.In lg) {a:Int} {v:M.W}(hc:check f=0)(h:impAt lg f a fi=true)(hr:M.R a v w)(hs:M.sat (treeOf f) v):M.sat (treeOf fi) w:=by
 unfold impAt at h;cases h9:(lastN f).op==9&&(lastN f).i==a
 ·rw [h9,cond_false]at h;cases h10:((lastN f).op==10&&(lastN f).i==a)||((lastN f).op==4&&((innerN f).op==9&&(innerN f).i==a))
  ·rw [h10]at h;cases h
  rw [h10,cond_true,Bool.and_eq_true]at h;have hl:=inL_in h.1;have heq:=eqN_eq h.2;have hE:=(hM a).eucl (by simp at hl;omega);rw [<-heq];rw [Bool.or_eq_true]at h10;rcases h10 with h10|h4
  ·rw [Bool.and_eq_true,beq_iff_eq,beq_iff_eq]at h10;obtain⟨u,h1,h2⟩:=(last_poss hc h10.1).1 hs;rw [h10.2]at h1;exact(last_poss hc h10.1).2 ⟨u,by rw [h10.2];exact hE v w u hr h1,h2⟩
  simp only [Bool.and_eq_true,beq_iff_eq]at h4;obtain⟨h4,h5,h6⟩:=h4;have hin:innerN f=f.getD (lastN f).x.toNat Nd.zero:=by unfold innerN;rw [show((lastN f).op==4)=true by rw [h4];rfl];rfl
  obtain⟨k,k1,k2,k3⟩:=opx hc (by rw [h4];rfl);have hk:f[k]?=some (innerN f):=by
   rw [hin,k3,Qk,Qv k2];rfl
  have e1:∀u:M.W,M.sat (treeOf f) u↔¬∀x,M.R a u x->M.sat (tr f (innerN f).x.toNat) x:=fun u=>by
   rw [show M.sat (treeOf f) u↔¬M.sat (tr f (lastN f).x.toNat) u from tr_one4 hc (last_at hc) h4,k3,tr_one9 hc hk h5,h6]
  rw [e1]at hs⊢;exact fun hall=>hs fun x hx=>hall x (hE v w x hr hx)
 rw [h9,cond_true,Bool.or_eq_true]at h;rw [Bool.and_eq_true,beq_iff_eq,beq_iff_eq]at h9;have hk:=(last_know hc h9.1).1 hs;rw [h9.2]at hk;rcases h with h|h
 ·rw [<-eqN_eq h];exact hk w hr
 rw [Bool.and_eq_true]at h;have hl:=inL_in h.1;rw [<-eqN_eq h.2];refine(last_know hc h9.1).2 fun u hu=> ?_
 rw [h9.2]at hu;exact hk u ((hM a).trans (by simp at hl;omega) v w u hr hu)
end
section
variable {M:KM} {ls:List Ln} {FS:List (List Nd)} {ST:List (List Int)} {i:Nat} {fi:List Nd} {v w:M.W} {n:Ln} {lg:Int}
theorem rule_box(h:NCtx M ls FS ST i fi) {r:Int×List Nd}(hs:subprL ls FS ST i r.1=some r)(hb:(lineAt ls r.1).rule=2)(hc:ctxC M ls FS (ST.getD i []) v w):check r.2=0/\∀u,M.R (lineAt ls r.1).agent w u->M.sat (treeOf r.2) u:=by
 obtain⟨_,_,_,h2,h3⟩:=sub_sem h hs hc;exact⟨h2,fun u hu=>h3 u (.inl ⟨by unfold isBox;rw [hb];rfl,hu⟩)⟩
theorem within_sem(h:NCtx M ls FS ST i fi) {j:Int} {r:List Int}(hl:withinL ST i j=some r)(hc:ctxC M ls FS (ST.getD i []) v w):0<=j/\j < i/\∃u,M.sat (treeOf (FS.getD j.toNat [])) u/\ctxC M ls FS r u w:=by
 unfold withinL at hl;by_cases hj:j < 0\/(i:Int)<=j
 ·rw [if_pos hj]at hl;cases hl
 rw [if_neg hj]at hl;by_cases ht:(ST.getD i []).take (ST.getD j.toNat []).length=ST.getD j.toNat []
 ·rw [if_pos ht]at hl;injection hl with hl;rw [take_split ht,hl]at hc;obtain⟨u,h1,h2⟩:=(ctx_append _ _ _ _).1 hc;exact⟨by omega,by omega,u,h.snd j.toNat (by omega) v u h1,h2⟩
 rw [if_neg ht]at hl;cases hl
theorem ref_sem(h:NCtx M ls FS ST i fi) {x:List Nd}(hl:refutesL ls FS ST i n=some x)(hc:ctxC M ls FS (ST.getD i []) v w):check x=0/\¬M.sat (treeOf x) w:=by
 unfold refutesL at hl
 split at hl
 ·cases hl
 rename_i r hx;unfold asmL at hx;cases hd:decide (n.from_.length=1)
 ·rw [hd]at hx;cases hx
 rw [hd]at hx;obtain⟨c1,_,i1⟩:=asm_sem h hx hc;cases he:eqN r.2 falseN
 ·rw [he]at hl;cases hl
 rw [he]at hl;injection hl with hl;rw [<-hl];rw [eqN_eq he]at i1;exact⟨c1,fun hs=>sem_false (i1 hs)⟩
theorem rule_sound(hM:M.In lg)(h:NCtx M ls FS ST i fi)(hfi:check fi=0)(k:Nat)(hr:ruleL k lg ls FS ST i n fi=true)(hc:ctxC M ls FS (ST.getD i []) v w):M.sat (treeOf fi) w:=by
 match k,hr with
 |0,hr =>
  replace hr:copiedL lg ls FS ST i n fi=true:=hr
  unfold copiedL at hr
  split at hr
  ·cases hr
  rename_i x hx;rw [<-eqN_eq hr];exact(one_sem h hx hc).2
 |1,hr =>
  replace hr:andInL lg ls FS ST i n fi=true:=hr
  unfold andInL at hr
  split at hr
  ·cases hr
  rename_i r hx;obtain⟨⟨_,h1⟩,_,h2⟩:=two_sem h hx hc;have e:=eqN_eq hr;rw [<-e]at hfi⊢;exact(sem_and hfi).2.2.2 ⟨h1,h2⟩
 |2,hr =>
  replace hr:andOutL lg ls FS ST i n fi=true:=hr
  unfold andOutL at hr
  split at hr
  ·cases hr
  rename_i f hx;obtain⟨hcf,hs⟩:=one_sem h hx hc
  split at hr
  ·cases hr
  rename_i r hp;obtain⟨h1,h2⟩:=(part_and hcf hp).1 hs;rw [Bool.or_eq_true]at hr;rcases hr with hr|hr
  ·rw [<-eqN_eq hr];exact h1
  rw [<-eqN_eq hr];exact h2
 |3,hr =>
  replace hr:orInL lg ls FS ST i n fi=true:=hr
  unfold orInL at hr
  split at hr
  ·cases hr
  rename_i f hx;obtain⟨hcf,hs⟩:=one_sem h hx hc
  split at hr
  ·cases hr
  rename_i r hp;rw [Bool.or_eq_true]at hr;refine(part_or hfi hp).2 ?_;rcases hr with hr|hr
  ·rw [eqN_eq hr];exact .inl hs
  rw [eqN_eq hr];exact .inr hs
 |4,hr =>
  replace hr:orOutL lg ls FS ST i n fi=true:=hr
  unfold orOutL at hr;cases hd:decide (n.from_.length=3)
  ·rw [hd]at hr;cases hr
  rw [hd,cond_true]at hr
  split at hr
  ·cases hr
  rename_i f hx;obtain⟨hcf,hs⟩:=line_sem h hx hc
  split at hr
  ·rename_i r a b hp ha hb;simp only [Bool.and_eq_true]at hr;obtain⟨e1,e2,e3,e4⟩:=hr;obtain⟨_,_,i1⟩:=asm_sem h ha hc;obtain⟨_,_,i2⟩:=asm_sem h hb hc;rcases(part_or hcf hp).1 hs with hs|hs
   ·rw [<-eqN_eq e3];exact i1 (by rw [eqN_eq e1];exact hs)
   rw [<-eqN_eq e4];exact i2 (by rw [eqN_eq e2];exact hs)
  cases hr
 |5,hr =>
  replace hr:impInL lg ls FS ST i n fi=true:=hr
  unfold impInL at hr
  split at hr
  ·cases hr
  rename_i r hx;unfold asmL at hx;cases hd:decide (n.from_.length=1)
  ·rw [hd]at hx;cases hx
  rw [hd]at hx;obtain⟨_,_,i1⟩:=asm_sem h hx hc;have e:=eqN_eq hr;rw [<-e]at hfi⊢;exact(sem_imp hfi).2.2.2 i1
 |6,hr =>
  replace hr:impOutL lg ls FS ST i n fi=true:=hr
  unfold impOutL at hr
  split at hr
  ·cases hr
  rename_i r hx;obtain⟨⟨_,h1⟩,hc2,h2⟩:=two_sem h hx hc;have e:=eqN_eq hr;rw [<-e]at hc2 h2;exact(sem_imp hc2).2.2.1 h2 h1
 |7,hr =>
  replace hr:notInL lg ls FS ST i n fi=true:=hr
  unfold notInL at hr
  split at hr
  ·cases hr
  rename_i x hx;obtain⟨_,i1⟩:=ref_sem h hx hc;have e:=eqN_eq hr;rw [<-e]at hfi⊢;exact(sem_not hfi).2.2 i1
 |8,hr =>
  replace hr:notOutL lg ls FS ST i n fi=true:=hr
  unfold notOutL at hr
  split at hr
  ·cases hr
  rename_i r hx;obtain⟨⟨_,h1⟩,hc2,h2⟩:=two_sem h hx hc;rw [Bool.and_eq_true]at hr;have e:=eqN_eq hr.1;rw [<-e]at hc2 h2;exact absurd h1 ((sem_not hc2).2.1 h2)
 |9,hr =>
  replace hr:absurdL lg ls FS ST i n fi=true:=hr
  unfold absurdL at hr
  split at hr
  ·cases hr
  rename_i x hx;obtain⟨hcx,i1⟩:=ref_sem h hx hc;have e:=eqN_eq hr;rw [<-e]at hcx i1;exact Classical.not_not.1 fun hn=>i1 ((sem_not hcx).2.2 hn)
 |10,hr =>
  replace hr:fromFalseL lg ls FS ST i n fi=true:=hr
  unfold fromFalseL at hr
  split at hr
  ·cases hr
  rename_i x hx;obtain⟨_,hs⟩:=one_sem h hx hc;rw [eqN_eq hr]at hs;exact absurd hs sem_false
 |11,hr =>
  replace hr:isTrueL lg ls FS ST i n fi=true:=hr
  unfold isTrueL at hr;rw [Bool.and_eq_true]at hr;rw [eqN_eq hr.2];exact sem_true
 |12,hr =>
  replace hr:iffL lg ls FS ST i n fi=true:=hr
  unfold iffL at hr
  split at hr
  ·rename_i r hx;obtain⟨⟨c1,h1⟩,c2,h2⟩:=two_sem h hx hc
   split at hr
   ·cases hr
   rename_i s hp;rw [Bool.and_eq_true]at hr;have e1:=eqN_eq hr.1;have e2:=eqN_eq hr.2;rw [<-e1]at c1 h1;rw [<-e2]at c2 h2;exact(part_iff hfi hp).2 ⟨(sem_imp c1).2.2.1 h1,(sem_imp c2).2.2.1 h2⟩
  split at hr
  ·cases hr
  rename_i f hx;obtain⟨hcf,hs⟩:=one_sem h hx hc
  split at hr
  ·cases hr
  rename_i s hp;have hi:=(part_iff hcf hp).1 hs;rw [Bool.or_eq_true]at hr;rcases hr with hr|hr
  ·have e:=eqN_eq hr;rw [<-e]at hfi⊢;exact(sem_imp hfi).2.2.2 hi.1
  have e:=eqN_eq hr;rw [<-e]at hfi⊢;exact(sem_imp hfi).2.2.2 hi.2
 |13,hr =>
  replace hr:knowInL lg ls FS ST i n fi=true:=hr
  unfold knowInL at hr;cases hd:decide (n.from_.length=1)
  ·rw [hd]at hr;cases hr
  rw [hd,cond_true]at hr
  split at hr
  ·cases hr
  rename_i r hx;rw [Bool.and_eq_true,beq_iff_eq]at hr;obtain⟨e1,h0,h1,_⟩:=sub_sem h hx hc;rw [<-e1]at hx h0 h1;obtain⟨c1,hk⟩:=rule_box h hx hr.1 hc;have e:=eqN_eq hr.2;rw [<-e]at hfi⊢;obtain⟨q,hq⟩:=Int.eq_ofNat_of_zero_le h0;have hag:=h.ag q (by omega);rw [<-hq]at hag;exact(sem_know hag.1 hag.2 hfi).2.2 hk
 |14,hr =>
  replace hr:importedL lg ls FS ST i n fi=true:=hr
  unfold importedL at hr;cases hd:decide (n.from_.length=1)
  ·rw [hd]at hr;cases hr
  rw [hd,cond_true]at hr
  split at hr
  ·cases hr
  rename_i r hx
  split at hr
  ·rename_i o hb;obtain⟨h0,h1,u,h2,h3⟩:=within_sem h hx hc;exact imp_sem hM (h.ck _ (getD_memF (by have:=h.fl;omega))) hr (ctx_one r o u w hb h3) h2
  cases hr
 |15,hr =>
  replace hr:knowTL lg ls FS ST i n fi=true:=hr
  unfold knowTL at hr
  split at hr
  ·cases hr
  rename_i f hx;obtain⟨hcf,hs⟩:=one_sem h hx hc;cases hl:inL [2,4,6] lg
  ·rw [hl]at hr;cases hr
  rw [hl,cond_true]at hr;have hl2:=inL_in hl
  split at hr
  ·cases hr
  rename_i r hp;obtain⟨ho,rfl⟩:=part_op hp;rw [<-eqN_eq hr];exact(last_know hcf ho).1 hs w ((hM _).refl (by simp at hl2;omega) w)
 |16,hr =>
  replace hr:dualL lg ls FS ST i n fi=true:=hr
  unfold dualL at hr
  split at hr
  ·cases hr
  rename_i f hx;obtain⟨hcf,hs⟩:=one_sem h hx hc;rw [Bool.or_eq_true]at hr;rcases hr with hr|hr
  ·exact(dual_sem hcf hfi hr).1 hs
  exact(dual_sem hfi hcf hr).2 hs
 |17,hr =>
  replace hr:serialL lg ls FS ST i n fi=true:=hr
  unfold serialL at hr
  split at hr
  ·cases hr
  rename_i f hx;obtain⟨hcf,hs⟩:=one_sem h hx hc;cases hl:inL [1,5] lg
  ·rw [hl]at hr;cases hr
  rw [hl,cond_true,Bool.and_eq_true,beq_iff_eq]at hr;have hl2:=inL_in hl;have hi:=head_i hcf (.inl hr.1);have e:=eqN_eq hr.2;rw [<-e]at hfi⊢;obtain⟨u,hu⟩:=(hM (lastN f).i).ser (by simp at hl2;omega) w;exact(sem_poss hi.1 hi.2 hfi).2.2 ⟨u,hu,(last_know hcf hr.1).1 hs u hu⟩
 |k+18,hr=>cases(show false=true from hr)
end
end Go.Proofs.YtmidgcldljfkcaaGreatDoor
