/- What is asked of a session: Fault. -/
import Derived.Test.YtdbmifjankgfpaaGreatDoorKA7
set_option linter.all false
set_option maxRecDepth 100000
namespace Go.Proofs.YtdbmifjankgfpaaGreatDoor
open Go.RowKit
def Zn:=@Option.bind_eq_some_iff
theorem NW (lo hi g:Nat)(i:Value)(c:aN)(l:List bC)(x:eU)(j:Nat)(w:World)(h:dJ w lo hi g i c l x j):
 Calls Tryz.prog 19 #[.pointer (some ⟨g,0,none⟩)] w fun e w'=>e= .returned (.int .i64 x.fault)/\w=w':=by
 obtain⟨_,_,_,_,_,_,_,d,_⟩:=h.reg;have b:=h.buf.form;rw[aa]at b;obtain⟨A,cap,rfl,_,_⟩:=b;obtain⟨_,q,p,m,o,k,n⟩:=d.parts;clear d h;go_enter Tryz.func19,Tryz.ntmps19
 go_wp2;go_ret;exact⟨rfl,rfl⟩
open Go.ChangeShapes Go.WideShapes Go.ChangeAt Go.RowKit
theorem nX {c:Type}(Q:Nat->c->Prop):∀n,(∀i,i<n->∃y,Q i y)->∃l:List c,l.length=n/\∀i (h:i<l.length),Q i l[i]
 |0,_=>⟨[],rfl,by simp⟩
 |n+1,h=>by
  obtain⟨l,d,e⟩:=nX Q n fun i hi=>h i (by omega)
  obtain⟨y,j⟩:=h n (by omega);refine⟨l++ [y],by simp[d],fun i hi=> ?_⟩;by_cases b:i<l.length
  ·rw[Ze b];exact e i b
  have:i=n:=by simp at hi;omega
  subst this;rw[List.getElem_append_right (by omega)];simpa[d]using j
theorem tA {w:World}{base:Nat}{a:Addr}{j:List Value}(h:w.cells? base a 3=some j):∃b c d,j= [b,c,d]/\w.cell? a=some b/\w.cell? (a.add 1)=some c/\w.cell? (a.add 2)=some d:=by
 unfold World.cells? at h;split at h
 ·have e:List.range 3= [0,1,2]:=rfl;rw[e]at h;simp only[List.mapM_cons,List.mapM_nil,Option.bind_eq_bind,Option.pure_def,Zn]at h;obtain⟨b,n,r,⟨c,p,s,⟨d,o,q,l,m⟩,i⟩,k⟩:=h;simp at l m i k;subst l;subst m;subst i;subst k;exact⟨b,c,d,rfl,by simpa[Addr.add]using n,p,o⟩
 cases h
theorem Lu {w:World}{a:Addr}{v:Value}(h:w.cell? a=some v):a.spot=none:=by
 unfold World.cell? at h;split at h
 ·split at h
  ·cases h
  rename_i b;simpa using b
 cases h
theorem Lv {w:World}{p:Addr}{v:Value}(h:w.cell? p=some v):p.block<w.heap.size:=by
 rcases xC p.block w.heap.size with h'|h'
 ·exact h'
 simp[World.cell?,xQ h']at h
