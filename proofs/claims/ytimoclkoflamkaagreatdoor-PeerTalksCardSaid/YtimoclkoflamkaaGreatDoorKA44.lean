/- hatchwayref24.Same. -/
import Derived.Test.YtimoclkoflamkaaGreatDoorKA29
set_option linter.all false
set_option maxRecDepth 100000
set_option maxHeartbeats 800000
open Go.Proofs.Tryz
namespace Go.Proofs.YtimoclkoflamkaaGreatDoor
open Go.RowKit
theorem Ik (a b:ByteArray)(x y:It)(B:Nat)(w:World)(o z s q p u:Value)(hx:bH w B x o z s)(k:bH w B y q p u)(l:B<=w.heap.size):
 Calls prog 19 #[.agg #[a,o,z,s],.agg #[b,q,p,u]] w fun e w'=>(∃r:Bool,e= .returned r/\(r=true↔a=b/\x=y))/\(w,w'):=by
 obtain⟨J,A,rfl,rfl,rfl,_⟩:=hx.open_;obtain⟨I,E,rfl,rfl,rfl,_⟩:=k.open_;obtain⟨W,m⟩:∃W,(w.alloc (.cells #[a,x.text,x.list,.slice J x.sub.length A] 30)).alloc (.cells #[b,y.text,y.list,.slice I y.sub.length E] 30)=W:=⟨_,rfl⟩
 have c:Below w.heap.size w W:=by rw[<-m];exact((zi _ w).alloc (ze _) _).alloc (by simp) _
 have F:=za (OC x B W _ _ _ (hx.below (c.mono l)) (zz l c.size) y _ _ _ (k.below (c.mono l)));have d:=za c;have n:=za m;clear hx k c m;rcases qo a b with⟨i,G,D⟩|⟨i,G,D⟩
 ·have j:=za i;clear i;go_enter func19,ntmps19
  go_wp2_with fail
  rw[n.out];refine F.out.mono ?_;rintro e K ⟨⟨r,rfl,C⟩,H⟩;go_wp2;go_ret;exact⟨⟨r,rfl,C.trans ⟨fun h=>⟨j.out,h⟩,fun h=>h.2⟩⟩,d.out.trans (H.mono d.out.size)⟩
 have j:=za i;clear i;go_enter func19,ntmps19
 go_wp2;first|rw[n.out]|skip
 go_ret;exact⟨⟨false,rfl,⟨(by intro h;cases h),fun h=>absurd h.1 j.out⟩⟩,by first|exact d.out|(rw[<-n.out]at d;exact d.out)|exact bQ⟩
