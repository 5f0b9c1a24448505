/- DriveOnce answers true. Plain. -/
import Derived.Test.YtfkhlbhjhdpkoaaGreatDoorZqbt
set_option linter.unusedVariables false
set_option linter.unusedSimpArgs false
set_option maxHeartbeats 4000000
namespace Go.Proofs.YtfkhlbhjhdpkoaaGreatDoor
open Go.RowKit
set_option maxHeartbeats 1000000
theorem JyG(s:List UInt8)(h0:(Kt 0 s).2.Err=0)(hs:s.length≤1000):(Kt 0 s).1.length≤1000∧(∀ t∈(Kt 0 s).1,t.Text.length≤1000)∧∀ t r,(Kt 0 s).1.map keyT=t::r→t.2.2=true:=by
 have h1:=Jlo ((Jr s).length+1) (Jr s) 0 0 true
 have h2:=JkL s
 obtain⟨_,h3,h4⟩:=Jnl 0 s
 have hr:=Jh0 h0
 have hl:(Kt 0 s).1.length=(raws s).1.length:=by
  have:=congrArg List.length (Jic hr).2
  simpa using this.symm
 refine⟨by rw[hl]; unfold raws; omega,fun t ht=>?_,fun t r e=>?_⟩
 ·have:keyT t∈(raws s).1.map keyR:=by rw[(Jic hr).2]; exact List.mem_map_of_mem ht
  obtain⟨x,hx,e⟩:=List.mem_map.1 this
  have e2:t.Text=x.txt:=by
   have:=congrArg (fun y:Int×List UInt8×Bool=>y.2.1) e
   exact this.symm
  rw[e2]
  have:=h1.2 x hx
  omega
 cases hx:(Kt 0 s).1 with
 | nil=>rw[hx]at e; cases e
 | cons a l =>
  rw[hx]at e
  simp only[List.map_cons,List.cons.injEq]at e
  rw[← e.1]
  exact h4 a l hx
end Go.Proofs.YtfkhlbhjhdpkoaaGreatDoor
