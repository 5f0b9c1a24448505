/- Facts on types,and which functions can be called. -/
import Derived.Test.YtfkhlbhjhdpkoaaGreatDoorZoae
import Derived.Test.YtfkhlbhjhdpkoaaGreatDoorRows
set_option linter.unusedVariables false
set_option linter.unusedSimpArgs false
namespace Go.Proofs.YtfkhlbhjhdpkoaaGreatDoor
open Go.RowKit
theorem JwN:JJ Tryz.prog 3=true:=by kernel_rfl
theorem Jy4:Js Tryz.prog 3=1:=by kernel_rfl
theorem JAA:tAgg Tryz.prog 3=false:=by kernel_rfl
theorem JAU:tZok Tryz.prog 3=true:=by kernel_rfl
theorem tZ_3:tZ Tryz.prog 3=[.int .i64 0]:=by kernel_rfl
theorem JDh:tCS Tryz.prog 3=[0]:=by kernel_rfl
theorem JuX:VJ Tryz.prog 3=8:=by kernel_rfl
theorem Ju0:JJ Tryz.prog 4=true:=by kernel_rfl
theorem JxT:Js Tryz.prog 4=1:=by kernel_rfl
theorem JA4:tAgg Tryz.prog 4=false:=by kernel_rfl
theorem Jz9:tZok Tryz.prog 4=true:=by kernel_rfl
theorem tZ_4:tZ Tryz.prog 4=[.bool false]:=by kernel_rfl
theorem JCZ:tCS Tryz.prog 4=[0]:=by kernel_rfl
theorem Jwq:VJ Tryz.prog 4=1:=by kernel_rfl
theorem Jw9:JJ Tryz.prog 5=true:=by kernel_rfl
theorem Jya:Js Tryz.prog 5=1:=by kernel_rfl
theorem JBa:tAgg Tryz.prog 5=false:=by kernel_rfl
theorem JzZ:tZok Tryz.prog 5=true:=by kernel_rfl
theorem tZ_5:tZ Tryz.prog 5=[.int .u8 0]:=by kernel_rfl
theorem JDc:tCS Tryz.prog 5=[0]:=by kernel_rfl
theorem Ju1:VJ Tryz.prog 5=1:=by kernel_rfl
theorem JDi:tZ1 Tryz.prog 5=true:=by kernel_rfl
theorem JwL:JJ Tryz.prog 9=true:=by kernel_rfl
theorem JyH:Js Tryz.prog 9=1:=by kernel_rfl
theorem Jz2:tAgg Tryz.prog 9=false:=by kernel_rfl
theorem JAe:tZok Tryz.prog 9=true:=by kernel_rfl
theorem tZ_9:tZ Tryz.prog 9=[str []]:=by kernel_rfl
theorem JDa:tCS Tryz.prog 9=[0]:=by kernel_rfl
theorem JvB:VJ Tryz.prog 9=16:=by kernel_rfl
theorem Jp4:JcQ Tryz.prog 9=true:=by kernel_rfl
theorem JvT:JkS Tryz.prog 20=true:=by kernel_rfl
theorem JvK:JcV Tryz.prog 20=4:=by kernel_rfl
theorem Js0:JJ Tryz.prog 24=true:=by kernel_rfl
theorem Jw5:Js Tryz.prog 24=1:=by kernel_rfl
theorem JyV:tAgg Tryz.prog 24=false:=by kernel_rfl
theorem Jyv:tZok Tryz.prog 24=true:=by kernel_rfl
theorem JDj:tZ Tryz.prog 24=[.slice none 0 0]:=by kernel_rfl
theorem JBq:tCS Tryz.prog 24=[11]:=by kernel_rfl
theorem JsO:VJ Tryz.prog 24=24:=by kernel_rfl
theorem Jws:JcV Tryz.prog 24=1:=by kernel_rfl
theorem Jr4:JI Tryz.prog 24=true:=by kernel_rfl
theorem Jw2:Jv Tryz.prog 24=44:=by kernel_rfl
theorem Jtz:Jdo 24=true:=by kernel_rfl
theorem Jwc:Jay 24=true:=by kernel_rfl
theorem JsG:JJ Tryz.prog 25=true:=by kernel_rfl
theorem Jxb:Js Tryz.prog 25=1:=by kernel_rfl
theorem Jyq:tAgg Tryz.prog 25=false:=by kernel_rfl
theorem JA0:tCS Tryz.prog 25=[1]:=by kernel_rfl
theorem Jth:JI Tryz.prog 25=true:=by kernel_rfl
theorem JwA:Jv Tryz.prog 25=3:=by kernel_rfl
theorem Jr2:Jdo 25=false:=by kernel_rfl
theorem Jvo:Jay 25=true:=by kernel_rfl
theorem Juc:JJ Tryz.prog 27=true:=by kernel_rfl
theorem JwX:Js Tryz.prog 27=2:=by kernel_rfl
theorem Jy8:tAgg Tryz.prog 27=true:=by kernel_rfl
theorem JxS:tZok Tryz.prog 27=true:=by kernel_rfl
theorem JDg:tZ Tryz.prog 27=[.slice none 0 0,.slice none 0 0]:=by kernel_rfl
theorem JAG:tCS Tryz.prog 27=[11,1]:=by kernel_rfl
theorem Jsy:X5 Tryz.prog 27=true:=by kernel_rfl
theorem Jmt:Ju Tryz.prog 27 0=true:=by kernel_rfl
theorem Jtk:tOff Tryz.prog 27 0=0:=by kernel_rfl
theorem Jrr:tFld Tryz.prog 27 0=24:=by kernel_rfl
theorem JlL:Ju Tryz.prog 27 1=true:=by kernel_rfl
theorem JtG:tOff Tryz.prog 27 1=1:=by kernel_rfl
theorem JtR:tFld Tryz.prog 27 1=25:=by kernel_rfl
theorem JtP:JJ Tryz.prog 28=true:=by kernel_rfl
theorem JwC:Js Tryz.prog 28=1:=by kernel_rfl
theorem Jx7:tAgg Tryz.prog 28=false:=by kernel_rfl
theorem Jy6:tZok Tryz.prog 28=true:=by kernel_rfl
theorem JDp:tZ Tryz.prog 28=[.slice none 0 0]:=by kernel_rfl
theorem JAg:tCS Tryz.prog 28=[5]:=by kernel_rfl
theorem Jwx:JcV Tryz.prog 28=1:=by kernel_rfl
theorem JsQ:JI Tryz.prog 28=true:=by kernel_rfl
theorem JwU:Jv Tryz.prog 28=63:=by kernel_rfl
theorem JrO:Jdo 28=true:=by kernel_rfl
theorem Jv0:Jay 28=true:=by kernel_rfl
theorem JsU:JJ Tryz.prog 29=true:=by kernel_rfl
theorem JvU:Js Tryz.prog 29=1:=by kernel_rfl
theorem Jyj:tAgg Tryz.prog 29=false:=by kernel_rfl
theorem JAn:tCS Tryz.prog 29=[0]:=by kernel_rfl
theorem JtA:JJ Tryz.prog 31=true:=by kernel_rfl
theorem Jv8:Js Tryz.prog 31=3:=by kernel_rfl
theorem Jyp:tAgg Tryz.prog 31=true:=by kernel_rfl
theorem Jy1:tZok Tryz.prog 31=true:=by kernel_rfl
theorem JC5:tZ Tryz.prog 31=[.int .i64 0,.int .i64 0,.int .i64 0]:=by kernel_rfl
theorem Jz1:tCS Tryz.prog 31=[0,0,0]:=by kernel_rfl
theorem JrM:X5 Tryz.prog 31=true:=by kernel_rfl
theorem JlA:Ju Tryz.prog 31 0=true:=by kernel_rfl
theorem JrW:tOff Tryz.prog 31 0=0:=by kernel_rfl
theorem Jts:tFld Tryz.prog 31 0=29:=by kernel_rfl
theorem Jml:Ju Tryz.prog 31 1=true:=by kernel_rfl
theorem Jus:tOff Tryz.prog 31 1=1:=by kernel_rfl
theorem Jtr:tFld Tryz.prog 31 1=3:=by kernel_rfl
theorem Jmw:Ju Tryz.prog 31 2=true:=by kernel_rfl
theorem Jug:tOff Tryz.prog 31 2=2:=by kernel_rfl
theorem Jua:tFld Tryz.prog 31 2=3:=by kernel_rfl
theorem JtY:JJ Tryz.prog 35=true:=by kernel_rfl
theorem Jxc:Js Tryz.prog 35=2:=by kernel_rfl
theorem Jyr:tAgg Tryz.prog 35=true:=by kernel_rfl
theorem JyZ:tZok Tryz.prog 35=true:=by kernel_rfl
theorem JC0:tZ Tryz.prog 35=[str [],str []]:=by kernel_rfl
theorem JAr:tCS Tryz.prog 35=[0,0]:=by kernel_rfl
theorem Jt8:VJ Tryz.prog 35=32:=by kernel_rfl
theorem Jut:X5 Tryz.prog 35=true:=by kernel_rfl
theorem Jl0:Ju Tryz.prog 35 0=true:=by kernel_rfl
theorem Juo:tOff Tryz.prog 35 0=0:=by kernel_rfl
theorem Jtv:tFld Tryz.prog 35 0=9:=by kernel_rfl
theorem JmK:Ju Tryz.prog 35 1=true:=by kernel_rfl
theorem JtM:tOff Tryz.prog 35 1=1:=by kernel_rfl
theorem JrA:tFld Tryz.prog 35 1=9:=by kernel_rfl
theorem Js2:JJ Tryz.prog 37=true:=by kernel_rfl
theorem JwT:Js Tryz.prog 37=1:=by kernel_rfl
theorem Jyd:tAgg Tryz.prog 37=false:=by kernel_rfl
theorem JAS:tCS Tryz.prog 37=[2]:=by kernel_rfl
theorem Jtl:JI Tryz.prog 37=true:=by kernel_rfl
theorem JwZ:Jv Tryz.prog 37=35:=by kernel_rfl
theorem JrG:Jdo 37=false:=by kernel_rfl
theorem Jxh:Jay 37=false:=by kernel_rfl
theorem Jtw:JJ Tryz.prog 39=true:=by kernel_rfl
theorem JwV:Js Tryz.prog 39=3:=by kernel_rfl
theorem JyP:tAgg Tryz.prog 39=true:=by kernel_rfl
theorem JyU:tZok Tryz.prog 39=true:=by kernel_rfl
theorem JDq:tZ Tryz.prog 39=[.int .i64 0,.int .i64 0,.int .i64 0]:=by kernel_rfl
theorem JAy:tCS Tryz.prog 39=[0,0,0]:=by kernel_rfl
theorem Jsh:X5 Tryz.prog 39=true:=by kernel_rfl
theorem Jmr:Ju Tryz.prog 39 0=true:=by kernel_rfl
theorem Jrz:tOff Tryz.prog 39 0=0:=by kernel_rfl
theorem Jtd:tFld Tryz.prog 39 0=3:=by kernel_rfl
theorem Jl6:Ju Tryz.prog 39 1=true:=by kernel_rfl
theorem Js5:tOff Tryz.prog 39 1=1:=by kernel_rfl
theorem JrV:tFld Tryz.prog 39 1=3:=by kernel_rfl
theorem JlT:Ju Tryz.prog 39 2=true:=by kernel_rfl
theorem JsB:tOff Tryz.prog 39 2=2:=by kernel_rfl
theorem Jub:tFld Tryz.prog 39 2=3:=by kernel_rfl
theorem JsA:JJ Tryz.prog 41=true:=by kernel_rfl
theorem Jwm:Js Tryz.prog 41=1:=by kernel_rfl
theorem Jy5:tAgg Tryz.prog 41=false:=by kernel_rfl
theorem JyT:tZok Tryz.prog 41=true:=by kernel_rfl
theorem JC6:tZ Tryz.prog 41=[.slice none 0 0]:=by kernel_rfl
theorem JzU:tCS Tryz.prog 41=[1]:=by kernel_rfl
theorem Jt9:VJ Tryz.prog 41=24:=by kernel_rfl
theorem JwD:JcV Tryz.prog 41=1:=by kernel_rfl
theorem JsZ:JI Tryz.prog 41=true:=by kernel_rfl
theorem Jv2:Jv Tryz.prog 41=9:=by kernel_rfl
theorem JsY:Jdo 41=false:=by kernel_rfl
theorem JvX:Jay 41=true:=by kernel_rfl
theorem JtD:JJ Tryz.prog 42=true:=by kernel_rfl
theorem Jvu:Js Tryz.prog 42=1:=by kernel_rfl
theorem Jyl:tAgg Tryz.prog 42=false:=by kernel_rfl
theorem JyA:tZok Tryz.prog 42=true:=by kernel_rfl
theorem JC1:tZ Tryz.prog 42=[.slice none 0 0]:=by kernel_rfl
theorem JzR:tCS Tryz.prog 42=[3]:=by kernel_rfl
theorem JrE:VJ Tryz.prog 42=24:=by kernel_rfl
theorem JwI:JcV Tryz.prog 42=1:=by kernel_rfl
theorem Jur:JI Tryz.prog 42=true:=by kernel_rfl
theorem JvS:Jv Tryz.prog 42=198:=by kernel_rfl
theorem Js4:Jdo 42=false:=by kernel_rfl
theorem JwE:Jay 42=false:=by kernel_rfl
theorem JrP:JJ Tryz.prog 44=true:=by kernel_rfl
theorem Jvr:Js Tryz.prog 44=11:=by kernel_rfl
theorem JyC:tAgg Tryz.prog 44=true:=by kernel_rfl
theorem Jy9:tZok Tryz.prog 44=true:=by kernel_rfl
theorem JDe:tZ Tryz.prog 44=[.int .i64 0,str [],.bool false,.bool false,.int .i64 0,.int .i64 0,.int .i64 0,.int .i64 0,.slice none 0 0,.slice none 0 0,.int .i64 0]:=by kernel_rfl
theorem JAo:tCS Tryz.prog 44=[0,0,0,0,0,0,0,0,1,3,0]:=by kernel_rfl
theorem JsM:VJ Tryz.prog 44=120:=by kernel_rfl
theorem Jrd:X5 Tryz.prog 44=true:=by kernel_rfl
theorem Jm9:Ju Tryz.prog 44 0=true:=by kernel_rfl
theorem Jre:tOff Tryz.prog 44 0=0:=by kernel_rfl
theorem JsK:tFld Tryz.prog 44 0=3:=by kernel_rfl
theorem Jmv:Ju Tryz.prog 44 1=true:=by kernel_rfl
theorem Jto:tOff Tryz.prog 44 1=1:=by kernel_rfl
theorem JtV:tFld Tryz.prog 44 1=9:=by kernel_rfl
theorem JlJ:Ju Tryz.prog 44 2=true:=by kernel_rfl
theorem Jsn:tOff Tryz.prog 44 2=2:=by kernel_rfl
theorem Juu:tFld Tryz.prog 44 2=4:=by kernel_rfl
theorem JlF:Ju Tryz.prog 44 3=true:=by kernel_rfl
theorem JsD:tOff Tryz.prog 44 3=3:=by kernel_rfl
theorem Jso:tFld Tryz.prog 44 3=4:=by kernel_rfl
theorem JlW:Ju Tryz.prog 44 4=true:=by kernel_rfl
theorem JrI:tOff Tryz.prog 44 4=4:=by kernel_rfl
theorem Jry:tFld Tryz.prog 44 4=3:=by kernel_rfl
theorem Jl1:Ju Tryz.prog 44 5=true:=by kernel_rfl
theorem Jss:tOff Tryz.prog 44 5=5:=by kernel_rfl
theorem JsS:tFld Tryz.prog 44 5=3:=by kernel_rfl
theorem Jmz:Ju Tryz.prog 44 6=true:=by kernel_rfl
theorem Jse:tOff Tryz.prog 44 6=6:=by kernel_rfl
theorem Jr0:tFld Tryz.prog 44 6=3:=by kernel_rfl
theorem JmJ:Ju Tryz.prog 44 7=true:=by kernel_rfl
theorem Jue:tOff Tryz.prog 44 7=7:=by kernel_rfl
theorem Jrl:tFld Tryz.prog 44 7=3:=by kernel_rfl
theorem JmW:Ju Tryz.prog 44 8=true:=by kernel_rfl
theorem Jsc:tOff Tryz.prog 44 8=8:=by kernel_rfl
theorem Jtp:tFld Tryz.prog 44 8=41:=by kernel_rfl
theorem JlR:Ju Tryz.prog 44 9=true:=by kernel_rfl
theorem Jsj:tOff Tryz.prog 44 9=9:=by kernel_rfl
theorem JtQ:tFld Tryz.prog 44 9=42:=by kernel_rfl
theorem Jla:Ju Tryz.prog 44 10=true:=by kernel_rfl
theorem JoP:tOff Tryz.prog 44 10=10:=by kernel_rfl
theorem JoS:tFld Tryz.prog 44 10=3:=by kernel_rfl
theorem JrL:JJ Tryz.prog 55=true:=by kernel_rfl
theorem Ju3:Js Tryz.prog 55=1:=by kernel_rfl
theorem JxW:tAgg Tryz.prog 55=false:=by kernel_rfl
theorem JAh:tCS Tryz.prog 55=[1]:=by kernel_rfl
theorem Jr1:JI Tryz.prog 55=true:=by kernel_rfl
theorem Jvg:Jv Tryz.prog 55=5:=by kernel_rfl
theorem Jsl:Jdo 55=false:=by kernel_rfl
theorem Jvf:Jay 55=true:=by kernel_rfl
theorem JrQ:JJ Tryz.prog 63=true:=by kernel_rfl
theorem Jvc:Js Tryz.prog 63=5:=by kernel_rfl
theorem Jyb:tAgg Tryz.prog 63=true:=by kernel_rfl
theorem JyD:tZok Tryz.prog 63=true:=by kernel_rfl
theorem JDl:tZ Tryz.prog 63=[str [],.bool false,.slice none 0 0,.bool false,.slice none 0 0]:=by kernel_rfl
theorem JBp:tCS Tryz.prog 63=[0,0,1,0,11]:=by kernel_rfl
theorem Juq:VJ Tryz.prog 63=80:=by kernel_rfl
theorem JrK:X5 Tryz.prog 63=true:=by kernel_rfl
theorem Jmf:Ju Tryz.prog 63 0=true:=by kernel_rfl
theorem JsI:tOff Tryz.prog 63 0=0:=by kernel_rfl
theorem Js6:tFld Tryz.prog 63 0=9:=by kernel_rfl
theorem JmC:Ju Tryz.prog 63 1=true:=by kernel_rfl
theorem Jty:tOff Tryz.prog 63 1=1:=by kernel_rfl
theorem Jsw:tFld Tryz.prog 63 1=4:=by kernel_rfl
theorem Jnc:Ju Tryz.prog 63 2=true:=by kernel_rfl
theorem Jtt:tOff Tryz.prog 63 2=2:=by kernel_rfl
theorem Jr9:tFld Tryz.prog 63 2=41:=by kernel_rfl
theorem Jl8:Ju Tryz.prog 63 3=true:=by kernel_rfl
theorem JtH:tOff Tryz.prog 63 3=3:=by kernel_rfl
theorem Jup:tFld Tryz.prog 63 3=4:=by kernel_rfl
theorem Jmj:Ju Tryz.prog 63 4=true:=by kernel_rfl
theorem Jrn:tOff Tryz.prog 63 4=4:=by kernel_rfl
theorem Jtm:tFld Tryz.prog 63 4=24:=by kernel_rfl
theorem Jys:tZok Tryz.prog 65=true:=by kernel_rfl
theorem JDd:tZ Tryz.prog 65=[.slice none 0 0,.int .i64 0,.int .i64 0,.int .i64 0,.slice none 0 0,.slice none 0 0,.slice none 0 0,.slice none 0 0,.int .i64 0]:=by kernel_rfl
theorem JA9:tCS Tryz.prog 65=[2,0,0,0,5,1,11,1,0]:=by kernel_rfl
theorem Jum:X5 Tryz.prog 65=true:=by kernel_rfl
theorem Jnd:Ju Tryz.prog 65 0=true:=by kernel_rfl
theorem Jt2:tOff Tryz.prog 65 0=0:=by kernel_rfl
theorem JsP:tFld Tryz.prog 65 0=37:=by kernel_rfl
theorem JlD:Ju Tryz.prog 65 1=true:=by kernel_rfl
theorem Js3:tOff Tryz.prog 65 1=1:=by kernel_rfl
theorem Jsd:tFld Tryz.prog 65 1=39:=by kernel_rfl
theorem Jna:Ju Tryz.prog 65 2=true:=by kernel_rfl
theorem Juj:tOff Tryz.prog 65 2=4:=by kernel_rfl
theorem Jtq:tFld Tryz.prog 65 2=28:=by kernel_rfl
theorem JmE:Ju Tryz.prog 65 3=true:=by kernel_rfl
theorem Jsm:tOff Tryz.prog 65 3=5:=by kernel_rfl
theorem JrC:tFld Tryz.prog 65 3=25:=by kernel_rfl
theorem JlU:Ju Tryz.prog 65 4=true:=by kernel_rfl
theorem JtF:tOff Tryz.prog 65 4=6:=by kernel_rfl
theorem JtT:tFld Tryz.prog 65 4=27:=by kernel_rfl
theorem JmS:Ju Tryz.prog 65 5=true:=by kernel_rfl
theorem JtE:tOff Tryz.prog 65 5=8:=by kernel_rfl
theorem JsR:tFld Tryz.prog 65 5=3:=by kernel_rfl
theorem Jrs:JJ Tryz.prog 70=true:=by kernel_rfl
theorem Jwp:Js Tryz.prog 70=2:=by kernel_rfl
theorem Jye:tAgg Tryz.prog 70=true:=by kernel_rfl
theorem JyN:tZok Tryz.prog 70=true:=by kernel_rfl
theorem JDf:tZ Tryz.prog 70=[str [],.slice none 0 0]:=by kernel_rfl
theorem Jz6:tCS Tryz.prog 70=[0,1]:=by kernel_rfl
theorem JtZ:X5 Tryz.prog 70=true:=by kernel_rfl
theorem JlO:Ju Tryz.prog 70 0=true:=by kernel_rfl
theorem JtX:tOff Tryz.prog 70 0=0:=by kernel_rfl
theorem Jtx:tFld Tryz.prog 70 0=9:=by kernel_rfl
theorem Jmp:Ju Tryz.prog 70 1=true:=by kernel_rfl
theorem JtO:tOff Tryz.prog 70 1=1:=by kernel_rfl
theorem JrS:tFld Tryz.prog 70 1=25:=by kernel_rfl
theorem Jtn:JJ Tryz.prog 78=true:=by kernel_rfl
theorem JvH:Js Tryz.prog 78=3:=by kernel_rfl
theorem JyY:tAgg Tryz.prog 78=true:=by kernel_rfl
theorem JyG:tZok Tryz.prog 78=true:=by kernel_rfl
theorem JDb:tZ Tryz.prog 78=[.int .i64 0,.int .i64 0,.int .i64 0]:=by kernel_rfl
theorem JA6:tCS Tryz.prog 78=[0,0,0]:=by kernel_rfl
theorem JnQ:JcQ Tryz.prog 78=true:=by kernel_rfl
theorem Jsa:X5 Tryz.prog 78=true:=by kernel_rfl
theorem JlZ:Ju Tryz.prog 78 0=true:=by kernel_rfl
theorem Jud:tOff Tryz.prog 78 0=0:=by kernel_rfl
theorem Jsz:tFld Tryz.prog 78 0=31:=by kernel_rfl
theorem Jtf:JI Tryz.prog 80=true:=by kernel_rfl
theorem Jwk:Jv Tryz.prog 80=90:=by kernel_rfl
theorem JtN:Jdo 80=true:=by kernel_rfl
theorem Jvk:Jay 80=true:=by kernel_rfl
theorem Js9:JI Tryz.prog 81=true:=by kernel_rfl
theorem Jv3:Jv Tryz.prog 81=24:=by kernel_rfl
theorem Jt3:Jdo 81=false:=by kernel_rfl
theorem Jvy:Jay 81=true:=by kernel_rfl
theorem JrU:JJ Tryz.prog 90=true:=by kernel_rfl
theorem Jvq:Js Tryz.prog 90=14:=by kernel_rfl
theorem JyR:tAgg Tryz.prog 90=true:=by kernel_rfl
theorem JxV:tZok Tryz.prog 90=true:=by kernel_rfl
theorem JDm:tZ Tryz.prog 90=[.bool false,.bool false,.bool false,.int .i64 0,str [],.bool false,.bool false,.int .i64 0,.int .i64 0,.int .i64 0,.int .i64 0,.slice none 0 0,.slice none 0 0,.int .i64 0]:=by kernel_rfl
theorem JzY:tCS Tryz.prog 90=[0,0,0,0,0,0,0,0,0,0,0,1,3,0]:=by kernel_rfl
theorem Jul:VJ Tryz.prog 90=128:=by kernel_rfl
theorem Jsf:X5 Tryz.prog 90=true:=by kernel_rfl
theorem Jm2:Ju Tryz.prog 90 0=true:=by kernel_rfl
theorem JsN:tOff Tryz.prog 90 0=0:=by kernel_rfl
theorem Juh:tFld Tryz.prog 90 0=4:=by kernel_rfl
theorem JmB:Ju Tryz.prog 90 1=true:=by kernel_rfl
theorem Jrf:tOff Tryz.prog 90 1=1:=by kernel_rfl
theorem Jrm:tFld Tryz.prog 90 1=4:=by kernel_rfl
theorem Jms:Ju Tryz.prog 90 2=true:=by kernel_rfl
theorem Jt0:tOff Tryz.prog 90 2=2:=by kernel_rfl
theorem Jt7:tFld Tryz.prog 90 2=4:=by kernel_rfl
theorem Jm7:Ju Tryz.prog 90 3=true:=by kernel_rfl
theorem Jtu:tOff Tryz.prog 90 3=3:=by kernel_rfl
theorem JsX:tFld Tryz.prog 90 3=44:=by kernel_rfl
theorem JxR:tZok Tryz.prog 99=true:=by kernel_rfl
theorem JDn:tZ Tryz.prog 99=[str [],.slice none 0 0,str [],.int .i64 0,.int .i64 0,.slice none 0 0]:=by kernel_rfl
theorem JzS:tCS Tryz.prog 99=[0,1,0,0,0,11]:=by kernel_rfl
theorem Jrg:X5 Tryz.prog 99=true:=by kernel_rfl
theorem JlV:Ju Tryz.prog 99 0=true:=by kernel_rfl
theorem Juf:tOff Tryz.prog 99 0=0:=by kernel_rfl
theorem JtI:tFld Tryz.prog 99 0=70:=by kernel_rfl
theorem Jmb:Ju Tryz.prog 99 1=true:=by kernel_rfl
theorem JtS:tOff Tryz.prog 99 1=2:=by kernel_rfl
theorem Jta:tFld Tryz.prog 99 1=9:=by kernel_rfl
theorem JlN:Ju Tryz.prog 99 2=true:=by kernel_rfl
theorem Jsk:tOff Tryz.prog 99 2=3:=by kernel_rfl
theorem Jte:tFld Tryz.prog 99 2=3:=by kernel_rfl
theorem JmR:Ju Tryz.prog 99 3=true:=by kernel_rfl
theorem Js8:tOff Tryz.prog 99 3=4:=by kernel_rfl
theorem Jsi:tFld Tryz.prog 99 3=3:=by kernel_rfl
theorem JlC:Ju Tryz.prog 99 4=true:=by kernel_rfl
theorem JsV:tOff Tryz.prog 99 4=5:=by kernel_rfl
theorem Jr3:tFld Tryz.prog 99 4=24:=by kernel_rfl
theorem Jvx:tZok Tryz.prog 155=true:=by kernel_rfl
theorem JAc:tZ Tryz.prog 155=[.slice none 0 0,.slice none 0 0,.int .i64 0,.int .i64 0]:=by kernel_rfl
theorem Jx5:tCS Tryz.prog 155=[5,2,0,0]:=by kernel_rfl
theorem JoG:X5 Tryz.prog 155=true:=by kernel_rfl
theorem Jlj:Ju Tryz.prog 155 0=true:=by kernel_rfl
theorem Jpv:tOff Tryz.prog 155 0=0:=by kernel_rfl
theorem Jqh:tFld Tryz.prog 155 0=28:=by kernel_rfl
theorem Jk1:Ju Tryz.prog 155 1=true:=by kernel_rfl
theorem JoL:tOff Tryz.prog 155 1=1:=by kernel_rfl
theorem Jp6:tFld Tryz.prog 155 1=37:=by kernel_rfl
theorem Jlb:Ju Tryz.prog 155 2=true:=by kernel_rfl
theorem Jpo:tOff Tryz.prog 155 2=2:=by kernel_rfl
theorem Jqg:tFld Tryz.prog 155 2=3:=by kernel_rfl
theorem JkY:Ju Tryz.prog 155 3=true:=by kernel_rfl
theorem JpO:tOff Tryz.prog 155 3=3:=by kernel_rfl
theorem Jo0:tFld Tryz.prog 155 3=3:=by kernel_rfl
theorem Jpq:JJ Tryz.prog 156=true:=by kernel_rfl
theorem Jt4:Js Tryz.prog 156=3:=by kernel_rfl
theorem Jvm:tAgg Tryz.prog 156=true:=by kernel_rfl
theorem Jve:tZok Tryz.prog 156=true:=by kernel_rfl
theorem JBl:tZ Tryz.prog 156=[.int .i64 0,.int .i64 0,.int .i64 0]:=by kernel_rfl
theorem JyX:tCS Tryz.prog 156=[0,0,0]:=by kernel_rfl
theorem JmO:JcQ Tryz.prog 156=true:=by kernel_rfl
theorem JpZ:X5 Tryz.prog 156=true:=by kernel_rfl
theorem Jk9:Ju Tryz.prog 156 0=true:=by kernel_rfl
theorem Jps:tOff Tryz.prog 156 0=0:=by kernel_rfl
theorem Jp8:tFld Tryz.prog 156 0=31:=by kernel_rfl
theorem JpH:JJ Tryz.prog 157=true:=by kernel_rfl
theorem Jrq:Js Tryz.prog 157=1:=by kernel_rfl
theorem JvZ:tAgg Tryz.prog 157=false:=by kernel_rfl
theorem Jyc:tCS Tryz.prog 157=[0]:=by kernel_rfl
theorem JuZ:tZok Tryz.prog 159=true:=by kernel_rfl
theorem Jz7:tZ Tryz.prog 159=[.slice none 0 0,.int .i64 0,.int .i64 0,.int .i64 0]:=by kernel_rfl
theorem JyB:tCS Tryz.prog 159=[11,0,0,0]:=by kernel_rfl
theorem JoW:X5 Tryz.prog 159=true:=by kernel_rfl
theorem Jk6:Ju Tryz.prog 159 0=true:=by kernel_rfl
theorem JoQ:tOff Tryz.prog 159 0=0:=by kernel_rfl
theorem Jpa:tFld Tryz.prog 159 0=24:=by kernel_rfl
theorem Jk0:Ju Tryz.prog 159 1=true:=by kernel_rfl
theorem Jqf:tOff Tryz.prog 159 1=1:=by kernel_rfl
theorem Jpg:tFld Tryz.prog 159 1=3:=by kernel_rfl
theorem Jlk:Ju Tryz.prog 159 2=true:=by kernel_rfl
theorem JoK:tOff Tryz.prog 159 2=2:=by kernel_rfl
theorem JpY:tFld Tryz.prog 159 2=3:=by kernel_rfl
theorem Jle:Ju Tryz.prog 159 3=true:=by kernel_rfl
theorem Jpi:tOff Tryz.prog 159 3=3:=by kernel_rfl
theorem Jp3:tFld Tryz.prog 159 3=3:=by kernel_rfl
theorem JoF:JJ Tryz.prog 170=true:=by kernel_rfl
theorem JtB:Js Tryz.prog 170=3:=by kernel_rfl
theorem Jww:tAgg Tryz.prog 170=true:=by kernel_rfl
theorem JvN:tZok Tryz.prog 170=true:=by kernel_rfl
theorem JAJ:tZ Tryz.prog 170=[.int .i64 0,.int .i64 0,.int .i64 0]:=by kernel_rfl
theorem JyL:tCS Tryz.prog 170=[0,0,0]:=by kernel_rfl
theorem Jmc:JcQ Tryz.prog 170=true:=by kernel_rfl
theorem JpW:X5 Tryz.prog 170=true:=by kernel_rfl
theorem Jk5:Ju Tryz.prog 170 0=true:=by kernel_rfl
theorem Jph:tOff Tryz.prog 170 0=0:=by kernel_rfl
theorem Jqk:tFld Tryz.prog 170 0=31:=by kernel_rfl
theorem Jqq:JJ Tryz.prog 171=true:=by kernel_rfl
theorem JrH:Js Tryz.prog 171=1:=by kernel_rfl
theorem JuV:tAgg Tryz.prog 171=false:=by kernel_rfl
theorem Jva:tZok Tryz.prog 171=true:=by kernel_rfl
theorem JAT:tZ Tryz.prog 171=[.slice none 0 0]:=by kernel_rfl
theorem JyE:tCS Tryz.prog 171=[11]:=by kernel_rfl
theorem Jsq:JcV Tryz.prog 171=1:=by kernel_rfl
theorem JpA:JI Tryz.prog 171=true:=by kernel_rfl
theorem JsW:Jv Tryz.prog 171=44:=by kernel_rfl
theorem JpF:Jdo 171=true:=by kernel_rfl
theorem Jt1:Jay 171=true:=by kernel_rfl
theorem JoV:JJ Tryz.prog 178=true:=by kernel_rfl
theorem JsF:Js Tryz.prog 178=2:=by kernel_rfl
theorem Jwj:tAgg Tryz.prog 178=true:=by kernel_rfl
theorem Jpb:X5 Tryz.prog 178=true:=by kernel_rfl
theorem Jro:JuT Tryz.prog 178=2:=by kernel_rfl
theorem JwG:tAEl Tryz.prog 178=3:=by kernel_rfl
theorem JuW:tAOk Tryz.prog 178=true:=by kernel_rfl
theorem Ju2:tZok Tryz.prog 178=true:=by kernel_rfl
theorem JAu:tZ Tryz.prog 178=[.int .i64 0,.int .i64 0]:=by kernel_rfl
theorem Jy2:tCS Tryz.prog 178=[0]:=by kernel_rfl
theorem JoY:JJ Tryz.prog 198=true:=by kernel_rfl
theorem Js7:Js Tryz.prog 198=3:=by kernel_rfl
theorem Ju9:tAgg Tryz.prog 198=true:=by kernel_rfl
theorem Ju8:tZok Tryz.prog 198=true:=by kernel_rfl
theorem JBk:tZ Tryz.prog 198=[str [],.int .i64 0,.int .i64 0]:=by kernel_rfl
theorem JxY:tCS Tryz.prog 198=[0,0,0]:=by kernel_rfl
theorem JoA:VJ Tryz.prog 198=32:=by kernel_rfl
theorem Jo9:X5 Tryz.prog 198=true:=by kernel_rfl
theorem Jlh:Ju Tryz.prog 198 0=true:=by kernel_rfl
theorem Jp1:tOff Tryz.prog 198 0=0:=by kernel_rfl
theorem JpB:tFld Tryz.prog 198 0=9:=by kernel_rfl
theorem Jk8:Ju Tryz.prog 198 1=true:=by kernel_rfl
theorem Joy:tOff Tryz.prog 198 1=1:=by kernel_rfl
theorem Jqe:tFld Tryz.prog 198 1=3:=by kernel_rfl
theorem Jli:Ju Tryz.prog 198 2=true:=by kernel_rfl
theorem JoO:tOff Tryz.prog 198 2=2:=by kernel_rfl
theorem JpC:tFld Tryz.prog 198 2=3:=by kernel_rfl
theorem Joz:JJ Tryz.prog 210=true:=by kernel_rfl
theorem JtU:Js Tryz.prog 210=1:=by kernel_rfl
theorem Jwh:tAgg Tryz.prog 210=false:=by kernel_rfl
theorem Jx2:tCS Tryz.prog 210=[0]:=by kernel_rfl
theorem JtC:JcV Tryz.prog 210=4:=by kernel_rfl
theorem Jpd:JI Tryz.prog 224=true:=by kernel_rfl
theorem Jrk:Jv Tryz.prog 224=41:=by kernel_rfl
theorem Jo5:JI Tryz.prog 227=true:=by kernel_rfl
theorem Jr7:Jv Tryz.prog 227=42:=by kernel_rfl
theorem y_3:((((type_of% @Tryz.underlying3)∧(type_of% @JAA))∧((type_of% @JuX)∧(type_of% @JDh)))∧(((type_of% @JwN)∧(type_of% @Jy4))∧((type_of% @tZ_3)∧(type_of% @JAU)))):=⟨⟨⟨@Tryz.underlying3,@JAA⟩,⟨@JuX,@JDh⟩⟩,⟨⟨@JwN,@Jy4⟩,⟨@tZ_3,@JAU⟩⟩⟩
theorem y_4:((((type_of% @Tryz.underlying4)∧(type_of% @JA4))∧((type_of% @Jwq)∧(type_of% @JCZ)))∧(((type_of% @Ju0)∧(type_of% @JxT))∧((type_of% @tZ_4)∧(type_of% @Jz9)))):=⟨⟨⟨@Tryz.underlying4,@JA4⟩,⟨@Jwq,@JCZ⟩⟩,⟨⟨@Ju0,@JxT⟩,⟨@tZ_4,@Jz9⟩⟩⟩
theorem y_5:((((type_of% @Tryz.underlying5)∧(type_of% @JBa))∧((type_of% @Ju1)∧(type_of% @JDc)))∧(((type_of% @Jw9)∧(type_of% @Jya))∧((type_of% @JDi)∧((type_of% @tZ_5)∧(type_of% @JzZ))))):=⟨⟨⟨@Tryz.underlying5,@JBa⟩,⟨@Ju1,@JDc⟩⟩,⟨⟨@Jw9,@Jya⟩,⟨@JDi,⟨@tZ_5,@JzZ⟩⟩⟩⟩
theorem y_9:((((type_of% @Tryz.underlying9)∧(type_of% @Jz2))∧((type_of% @JvB)∧(type_of% @JDa)))∧(((type_of% @JwL)∧(type_of% @Jp4))∧((type_of% @JyH)∧((type_of% @tZ_9)∧(type_of% @JAe))))):=⟨⟨⟨@Tryz.underlying9,@Jz2⟩,⟨@JvB,@JDa⟩⟩,⟨⟨@JwL,@Jp4⟩,⟨@JyH,⟨@tZ_9,@JAe⟩⟩⟩⟩
theorem y_20:((type_of% @JvT)∧(type_of% @JvK)):=⟨@JvT,@JvK⟩
theorem y_24:((((type_of% @Jtz)∧((type_of% @Jwc)∧(type_of% @JyV)))∧((type_of% @JsO)∧((type_of% @JBq)∧(type_of% @Jw2))))∧(((type_of% @Js0)∧((type_of% @Jws)∧(type_of% @Jw5)))∧((type_of% @Jr4)∧((type_of% @JDj)∧(type_of% @Jyv))))):=⟨⟨⟨@Jtz,⟨@Jwc,@JyV⟩⟩,⟨@JsO,⟨@JBq,@Jw2⟩⟩⟩,⟨⟨@Js0,⟨@Jws,@Jw5⟩⟩,⟨@Jr4,⟨@JDj,@Jyv⟩⟩⟩⟩
theorem y_25:((((type_of% @Jr2)∧(type_of% @Jvo))∧((type_of% @Jyq)∧(type_of% @JA0)))∧(((type_of% @JwA)∧(type_of% @JsG))∧((type_of% @Jxb)∧(type_of% @Jth)))):=⟨⟨⟨@Jr2,@Jvo⟩,⟨@Jyq,@JA0⟩⟩,⟨⟨@JwA,@JsG⟩,⟨@Jxb,@Jth⟩⟩⟩
theorem y_27:((((type_of% @Jy8)∧((type_of% @JAG)∧(type_of% @Jrr)))∧((type_of% @JtR)∧((type_of% @Juc)∧(type_of% @Jtk))))∧(((type_of% @JtG)∧((type_of% @Jsy)∧(type_of% @JwX)))∧(((type_of% @Jmt)∧(type_of% @JlL))∧((type_of% @JDg)∧(type_of% @JxS))))):=⟨⟨⟨@Jy8,⟨@JAG,@Jrr⟩⟩,⟨@JtR,⟨@Juc,@Jtk⟩⟩⟩,⟨⟨@JtG,⟨@Jsy,@JwX⟩⟩,⟨⟨@Jmt,@JlL⟩,⟨@JDg,@JxS⟩⟩⟩⟩
theorem y_28:((((type_of% @JrO)∧(type_of% @Jv0))∧((type_of% @Jx7)∧((type_of% @JAg)∧(type_of% @JwU))))∧(((type_of% @JtP)∧((type_of% @Jwx)∧(type_of% @JwC)))∧((type_of% @JsQ)∧((type_of% @JDp)∧(type_of% @Jy6))))):=⟨⟨⟨@JrO,@Jv0⟩,⟨@Jx7,⟨@JAg,@JwU⟩⟩⟩,⟨⟨@JtP,⟨@Jwx,@JwC⟩⟩,⟨@JsQ,⟨@JDp,@Jy6⟩⟩⟩⟩
theorem y_29:(((type_of% @Jyj)∧(type_of% @JAn))∧((type_of% @JsU)∧(type_of% @JvU))):=⟨⟨@Jyj,@JAn⟩,⟨@JsU,@JvU⟩⟩
theorem y_31:(((((type_of% @Jyp)∧(type_of% @Jz1))∧((type_of% @Jts)∧(type_of% @Jtr)))∧(((type_of% @Jua)∧(type_of% @JtA))∧((type_of% @JrW)∧(type_of% @Jus))))∧((((type_of% @Jug)∧(type_of% @JrM))∧((type_of% @Jv8)∧(type_of% @JlA)))∧(((type_of% @Jml)∧(type_of% @Jmw))∧((type_of% @JC5)∧(type_of% @Jy1))))):=⟨⟨⟨⟨@Jyp,@Jz1⟩,⟨@Jts,@Jtr⟩⟩,⟨⟨@Jua,@JtA⟩,⟨@JrW,@Jus⟩⟩⟩,⟨⟨⟨@Jug,@JrM⟩,⟨@Jv8,@JlA⟩⟩,⟨⟨@Jml,@Jmw⟩,⟨@JC5,@Jy1⟩⟩⟩⟩
theorem y_35:((((type_of% @Jyr)∧((type_of% @Jt8)∧(type_of% @JAr)))∧(((type_of% @Jtv)∧(type_of% @JrA))∧((type_of% @JtY)∧(type_of% @Juo))))∧(((type_of% @JtM)∧((type_of% @Jut)∧(type_of% @Jxc)))∧(((type_of% @Jl0)∧(type_of% @JmK))∧((type_of% @JC0)∧(type_of% @JyZ))))):=⟨⟨⟨@Jyr,⟨@Jt8,@JAr⟩⟩,⟨⟨@Jtv,@JrA⟩,⟨@JtY,@Juo⟩⟩⟩,⟨⟨@JtM,⟨@Jut,@Jxc⟩⟩,⟨⟨@Jl0,@JmK⟩,⟨@JC0,@JyZ⟩⟩⟩⟩
theorem y_37:((((type_of% @JrG)∧(type_of% @Jxh))∧((type_of% @Jyd)∧(type_of% @JAS)))∧(((type_of% @JwZ)∧(type_of% @Js2))∧((type_of% @JwT)∧(type_of% @Jtl)))):=⟨⟨⟨@JrG,@Jxh⟩,⟨@Jyd,@JAS⟩⟩,⟨⟨@JwZ,@Js2⟩,⟨@JwT,@Jtl⟩⟩⟩
theorem y_39:(((((type_of% @JyP)∧(type_of% @JAy))∧((type_of% @Jtd)∧(type_of% @JrV)))∧(((type_of% @Jub)∧(type_of% @Jtw))∧((type_of% @Jrz)∧(type_of% @Js5))))∧((((type_of% @JsB)∧(type_of% @Jsh))∧((type_of% @JwV)∧(type_of% @Jmr)))∧(((type_of% @Jl6)∧(type_of% @JlT))∧((type_of% @JDq)∧(type_of% @JyU))))):=⟨⟨⟨⟨@JyP,@JAy⟩,⟨@Jtd,@JrV⟩⟩,⟨⟨@Jub,@Jtw⟩,⟨@Jrz,@Js5⟩⟩⟩,⟨⟨⟨@JsB,@Jsh⟩,⟨@JwV,@Jmr⟩⟩,⟨⟨@Jl6,@JlT⟩,⟨@JDq,@JyU⟩⟩⟩⟩
theorem y_41:((((type_of% @JsY)∧((type_of% @JvX)∧(type_of% @Jy5)))∧((type_of% @Jt9)∧((type_of% @JzU)∧(type_of% @Jv2))))∧(((type_of% @JsA)∧((type_of% @JwD)∧(type_of% @Jwm)))∧((type_of% @JsZ)∧((type_of% @JC6)∧(type_of% @JyT))))):=⟨⟨⟨@JsY,⟨@JvX,@Jy5⟩⟩,⟨@Jt9,⟨@JzU,@Jv2⟩⟩⟩,⟨⟨@JsA,⟨@JwD,@Jwm⟩⟩,⟨@JsZ,⟨@JC6,@JyT⟩⟩⟩⟩
theorem y_42:((((type_of% @Js4)∧((type_of% @JwE)∧(type_of% @Jyl)))∧((type_of% @JrE)∧((type_of% @JzR)∧(type_of% @JvS))))∧(((type_of% @JtD)∧((type_of% @JwI)∧(type_of% @Jvu)))∧((type_of% @Jur)∧((type_of% @JC1)∧(type_of% @JyA))))):=⟨⟨⟨@Js4,⟨@JwE,@Jyl⟩⟩,⟨@JrE,⟨@JzR,@JvS⟩⟩⟩,⟨⟨@JtD,⟨@JwI,@Jvu⟩⟩,⟨@Jur,⟨@JC1,@JyA⟩⟩⟩⟩
theorem y_44:((((((type_of% @JyC)∧(type_of% @JsM))∧((type_of% @JAo)∧((type_of% @JsK)∧(type_of% @JtV))))∧(((type_of% @JoS)∧(type_of% @Juu))∧((type_of% @Jso)∧((type_of% @Jry)∧(type_of% @JsS)))))∧((((type_of% @Jr0)∧(type_of% @Jrl))∧((type_of% @Jtp)∧((type_of% @JtQ)∧(type_of% @JrP))))∧(((type_of% @Jre)∧(type_of% @Jto))∧((type_of% @JoP)∧((type_of% @Jsn)∧(type_of% @JsD))))))∧(((((type_of% @JrI)∧(type_of% @Jss))∧((type_of% @Jse)∧((type_of% @Jue)∧(type_of% @Jsc))))∧(((type_of% @Jsj)∧(type_of% @Jrd))∧((type_of% @Jvr)∧((type_of% @Jm9)∧(type_of% @Jmv)))))∧((((type_of% @Jla)∧(type_of% @JlJ))∧((type_of% @JlF)∧((type_of% @JlW)∧(type_of% @Jl1))))∧(((type_of% @Jmz)∧((type_of% @JmJ)∧(type_of% @JmW)))∧((type_of% @JlR)∧((type_of% @JDe)∧(type_of% @Jy9))))))):=⟨⟨⟨⟨⟨@JyC,@JsM⟩,⟨@JAo,⟨@JsK,@JtV⟩⟩⟩,⟨⟨@JoS,@Juu⟩,⟨@Jso,⟨@Jry,@JsS⟩⟩⟩⟩,⟨⟨⟨@Jr0,@Jrl⟩,⟨@Jtp,⟨@JtQ,@JrP⟩⟩⟩,⟨⟨@Jre,@Jto⟩,⟨@JoP,⟨@Jsn,@JsD⟩⟩⟩⟩⟩,⟨⟨⟨⟨@JrI,@Jss⟩,⟨@Jse,⟨@Jue,@Jsc⟩⟩⟩,⟨⟨@Jsj,@Jrd⟩,⟨@Jvr,⟨@Jm9,@Jmv⟩⟩⟩⟩,⟨⟨⟨@Jla,@JlJ⟩,⟨@JlF,⟨@JlW,@Jl1⟩⟩⟩,⟨⟨@Jmz,⟨@JmJ,@JmW⟩⟩,⟨@JlR,⟨@JDe,@Jy9⟩⟩⟩⟩⟩⟩
theorem y_55:((((type_of% @Tryz.underlying55)∧(type_of% @Jsl))∧((type_of% @Jvf)∧(type_of% @JxW)))∧(((type_of% @JAh)∧(type_of% @Jvg))∧((type_of% @JrL)∧((type_of% @Ju3)∧(type_of% @Jr1))))):=⟨⟨⟨@Tryz.underlying55,@Jsl⟩,⟨@Jvf,@JxW⟩⟩,⟨⟨@JAh,@Jvg⟩,⟨@JrL,⟨@Ju3,@Jr1⟩⟩⟩⟩
theorem y_63:(((((type_of% @Jyb)∧(type_of% @Juq))∧((type_of% @JBp)∧((type_of% @Js6)∧(type_of% @Jsw))))∧(((type_of% @Jr9)∧((type_of% @Jup)∧(type_of% @Jtm)))∧((type_of% @JrQ)∧((type_of% @JsI)∧(type_of% @Jty)))))∧((((type_of% @Jtt)∧((type_of% @JtH)∧(type_of% @Jrn)))∧((type_of% @JrK)∧((type_of% @Jvc)∧(type_of% @Jmf))))∧(((type_of% @JmC)∧((type_of% @Jnc)∧(type_of% @Jl8)))∧((type_of% @Jmj)∧((type_of% @JDl)∧(type_of% @JyD)))))):=⟨⟨⟨⟨@Jyb,@Juq⟩,⟨@JBp,⟨@Js6,@Jsw⟩⟩⟩,⟨⟨@Jr9,⟨@Jup,@Jtm⟩⟩,⟨@JrQ,⟨@JsI,@Jty⟩⟩⟩⟩,⟨⟨⟨@Jtt,⟨@JtH,@Jrn⟩⟩,⟨@JrK,⟨@Jvc,@Jmf⟩⟩⟩,⟨⟨@JmC,⟨@Jnc,@Jl8⟩⟩,⟨@Jmj,⟨@JDl,@JyD⟩⟩⟩⟩⟩
theorem y_65:(((((type_of% @JA9)∧(type_of% @JsP))∧((type_of% @Jsd)∧((type_of% @Jtq)∧(type_of% @JrC))))∧(((type_of% @JtT)∧((type_of% @JsR)∧(type_of% @Jt2)))∧((type_of% @Js3)∧((type_of% @Juj)∧(type_of% @Jsm)))))∧((((type_of% @JtF)∧(type_of% @JtE))∧((type_of% @Jum)∧((type_of% @Jnd)∧(type_of% @JlD))))∧(((type_of% @Jna)∧((type_of% @JmE)∧(type_of% @JlU)))∧((type_of% @JmS)∧((type_of% @JDd)∧(type_of% @Jys)))))):=⟨⟨⟨⟨@JA9,@JsP⟩,⟨@Jsd,⟨@Jtq,@JrC⟩⟩⟩,⟨⟨@JtT,⟨@JsR,@Jt2⟩⟩,⟨@Js3,⟨@Juj,@Jsm⟩⟩⟩⟩,⟨⟨⟨@JtF,@JtE⟩,⟨@Jum,⟨@Jnd,@JlD⟩⟩⟩,⟨⟨@Jna,⟨@JmE,@JlU⟩⟩,⟨@JmS,⟨@JDd,@Jys⟩⟩⟩⟩⟩
theorem y_70:((((type_of% @Jye)∧((type_of% @Jz6)∧(type_of% @Jtx)))∧((type_of% @JrS)∧((type_of% @Jrs)∧(type_of% @JtX))))∧(((type_of% @JtO)∧((type_of% @JtZ)∧(type_of% @Jwp)))∧(((type_of% @JlO)∧(type_of% @Jmp))∧((type_of% @JDf)∧(type_of% @JyN))))):=⟨⟨⟨@Jye,⟨@Jz6,@Jtx⟩⟩,⟨@JrS,⟨@Jrs,@JtX⟩⟩⟩,⟨⟨@JtO,⟨@JtZ,@Jwp⟩⟩,⟨⟨@JlO,@Jmp⟩,⟨@JDf,@JyN⟩⟩⟩⟩
theorem y_78:((((type_of% @JyY)∧(type_of% @JA6))∧((type_of% @Jsz)∧((type_of% @Jtn)∧(type_of% @JnQ))))∧(((type_of% @Jud)∧((type_of% @Jsa)∧(type_of% @JvH)))∧((type_of% @JlZ)∧((type_of% @JDb)∧(type_of% @JyG))))):=⟨⟨⟨@JyY,@JA6⟩,⟨@Jsz,⟨@Jtn,@JnQ⟩⟩⟩,⟨⟨@Jud,⟨@Jsa,@JvH⟩⟩,⟨@JlZ,⟨@JDb,@JyG⟩⟩⟩⟩
theorem y_80:(((type_of% @JtN)∧(type_of% @Jvk))∧((type_of% @Jwk)∧(type_of% @Jtf))):=⟨⟨@JtN,@Jvk⟩,⟨@Jwk,@Jtf⟩⟩
theorem y_81:(((type_of% @Jt3)∧(type_of% @Jvy))∧((type_of% @Jv3)∧(type_of% @Js9))):=⟨⟨@Jt3,@Jvy⟩,⟨@Jv3,@Js9⟩⟩
theorem y_90:(((((type_of% @JyR)∧(type_of% @Jul))∧((type_of% @JzY)∧((type_of% @Juh)∧(type_of% @Jrm))))∧(((type_of% @Jt7)∧(type_of% @JsX))∧((type_of% @JrU)∧((type_of% @JsN)∧(type_of% @Jrf)))))∧((((type_of% @Jt0)∧(type_of% @Jtu))∧((type_of% @Jsf)∧((type_of% @Jvq)∧(type_of% @Jm2))))∧(((type_of% @JmB)∧(type_of% @Jms))∧((type_of% @Jm7)∧((type_of% @JDm)∧(type_of% @JxV)))))):=⟨⟨⟨⟨@JyR,@Jul⟩,⟨@JzY,⟨@Juh,@Jrm⟩⟩⟩,⟨⟨@Jt7,@JsX⟩,⟨@JrU,⟨@JsN,@Jrf⟩⟩⟩⟩,⟨⟨⟨@Jt0,@Jtu⟩,⟨@Jsf,⟨@Jvq,@Jm2⟩⟩⟩,⟨⟨@JmB,@Jms⟩,⟨@Jm7,⟨@JDm,@JxV⟩⟩⟩⟩⟩
theorem y_99:(((((type_of% @JzS)∧(type_of% @JtI))∧((type_of% @Jta)∧(type_of% @Jte)))∧(((type_of% @Jsi)∧(type_of% @Jr3))∧((type_of% @Juf)∧((type_of% @JtS)∧(type_of% @Jsk)))))∧((((type_of% @Js8)∧(type_of% @JsV))∧((type_of% @Jrg)∧((type_of% @JlV)∧(type_of% @Jmb))))∧(((type_of% @JlN)∧(type_of% @JmR))∧((type_of% @JlC)∧((type_of% @JDn)∧(type_of% @JxR)))))):=⟨⟨⟨⟨@JzS,@JtI⟩,⟨@Jta,@Jte⟩⟩,⟨⟨@Jsi,@Jr3⟩,⟨@Juf,⟨@JtS,@Jsk⟩⟩⟩⟩,⟨⟨⟨@Js8,@JsV⟩,⟨@Jrg,⟨@JlV,@Jmb⟩⟩⟩,⟨⟨@JlN,@JmR⟩,⟨@JlC,⟨@JDn,@JxR⟩⟩⟩⟩⟩
theorem JuU:(((((type_of% @Jx5)∧(type_of% @Jqh))∧((type_of% @Jp6)∧(type_of% @Jqg)))∧(((type_of% @Jo0)∧(type_of% @Jpv))∧((type_of% @JoL)∧(type_of% @Jpo))))∧((((type_of% @JpO)∧(type_of% @JoG))∧((type_of% @Jlj)∧(type_of% @Jk1)))∧(((type_of% @Jlb)∧(type_of% @JkY))∧((type_of% @JAc)∧(type_of% @Jvx))))):=⟨⟨⟨⟨@Jx5,@Jqh⟩,⟨@Jp6,@Jqg⟩⟩,⟨⟨@Jo0,@Jpv⟩,⟨@JoL,@Jpo⟩⟩⟩,⟨⟨⟨@JpO,@JoG⟩,⟨@Jlj,@Jk1⟩⟩,⟨⟨@Jlb,@JkY⟩,⟨@JAc,@Jvx⟩⟩⟩⟩
theorem JFB:((((type_of% @Jvm)∧(type_of% @JyX))∧((type_of% @Jp8)∧((type_of% @Jpq)∧(type_of% @JmO))))∧(((type_of% @Jps)∧((type_of% @JpZ)∧(type_of% @Jt4)))∧((type_of% @Jk9)∧((type_of% @JBl)∧(type_of% @Jve))))):=⟨⟨⟨@Jvm,@JyX⟩,⟨@Jp8,⟨@Jpq,@JmO⟩⟩⟩,⟨⟨@Jps,⟨@JpZ,@Jt4⟩⟩,⟨@Jk9,⟨@JBl,@Jve⟩⟩⟩⟩
theorem JC2:(((type_of% @JvZ)∧(type_of% @Jyc))∧((type_of% @JpH)∧(type_of% @Jrq))):=⟨⟨@JvZ,@Jyc⟩,⟨@JpH,@Jrq⟩⟩
theorem JkN:(((((type_of% @JyB)∧(type_of% @Jpa))∧((type_of% @Jpg)∧(type_of% @JpY)))∧(((type_of% @Jp3)∧(type_of% @JoQ))∧((type_of% @Jqf)∧(type_of% @JoK))))∧((((type_of% @Jpi)∧(type_of% @JoW))∧((type_of% @Jk6)∧(type_of% @Jk0)))∧(((type_of% @Jlk)∧(type_of% @Jle))∧((type_of% @Jz7)∧(type_of% @JuZ))))):=⟨⟨⟨⟨@JyB,@Jpa⟩,⟨@Jpg,@JpY⟩⟩,⟨⟨@Jp3,@JoQ⟩,⟨@Jqf,@JoK⟩⟩⟩,⟨⟨⟨@Jpi,@JoW⟩,⟨@Jk6,@Jk0⟩⟩,⟨⟨@Jlk,@Jle⟩,⟨@Jz7,@JuZ⟩⟩⟩⟩
theorem JzN:((((type_of% @Jww)∧(type_of% @JyL))∧((type_of% @Jqk)∧((type_of% @JoF)∧(type_of% @Jmc))))∧(((type_of% @Jph)∧((type_of% @JpW)∧(type_of% @JtB)))∧((type_of% @Jk5)∧((type_of% @JAJ)∧(type_of% @JvN))))):=⟨⟨⟨@Jww,@JyL⟩,⟨@Jqk,⟨@JoF,@Jmc⟩⟩⟩,⟨⟨@Jph,⟨@JpW,@JtB⟩⟩,⟨@Jk5,⟨@JAJ,@JvN⟩⟩⟩⟩
theorem Jqu:((((type_of% @JpF)∧(type_of% @Jt1))∧((type_of% @JuV)∧((type_of% @JyE)∧(type_of% @JsW))))∧(((type_of% @Jqq)∧((type_of% @Jsq)∧(type_of% @JrH)))∧((type_of% @JpA)∧((type_of% @JAT)∧(type_of% @Jva))))):=⟨⟨⟨@JpF,@Jt1⟩,⟨@JuV,⟨@JyE,@JsW⟩⟩⟩,⟨⟨@Jqq,⟨@Jsq,@JrH⟩⟩,⟨@JpA,⟨@JAT,@Jva⟩⟩⟩⟩
theorem JFM:((((type_of% @JwG)∧(type_of% @Jro))∧((type_of% @JuW)∧((type_of% @Jwj)∧(type_of% @Jy2))))∧(((type_of% @JoV)∧(type_of% @Jpb))∧((type_of% @JsF)∧((type_of% @JAu)∧(type_of% @Ju2))))):=⟨⟨⟨@JwG,@Jro⟩,⟨@JuW,⟨@Jwj,@Jy2⟩⟩⟩,⟨⟨@JoV,@Jpb⟩,⟨@JsF,⟨@JAu,@Ju2⟩⟩⟩⟩
theorem JuS:(((((type_of% @Ju9)∧(type_of% @JoA))∧((type_of% @JxY)∧(type_of% @JpB)))∧(((type_of% @Jqe)∧(type_of% @JpC))∧((type_of% @JoY)∧(type_of% @Jp1))))∧((((type_of% @Joy)∧(type_of% @JoO))∧((type_of% @Jo9)∧(type_of% @Js7)))∧(((type_of% @Jlh)∧(type_of% @Jk8))∧((type_of% @Jli)∧((type_of% @JBk)∧(type_of% @Ju8)))))):=⟨⟨⟨⟨@Ju9,@JoA⟩,⟨@JxY,@JpB⟩⟩,⟨⟨@Jqe,@JpC⟩,⟨@JoY,@Jp1⟩⟩⟩,⟨⟨⟨@Joy,@JoO⟩,⟨@Jo9,@Js7⟩⟩,⟨⟨@Jlh,@Jk8⟩,⟨@Jli,⟨@JBk,@Ju8⟩⟩⟩⟩⟩
theorem JFv:(((type_of% @Jwh)∧(type_of% @Jx2))∧((type_of% @Joz)∧((type_of% @JtC)∧(type_of% @JtU)))):=⟨⟨@Jwh,@Jx2⟩,⟨@Joz,⟨@JtC,@JtU⟩⟩⟩
theorem JC3:((type_of% @Jrk)∧(type_of% @Jpd)):=⟨@Jrk,@Jpd⟩
theorem JDo:((type_of% @Jr7)∧(type_of% @Jo5)):=⟨@Jr7,@Jo5⟩
theorem JEz:Jd Tryz.prog 11:=Je Tryz.func11 (by kernel_rfl) (by kernel_rfl)
theorem JD8:Jd Tryz.prog 13:=Je Tryz.func13 (by kernel_rfl) (by kernel_rfl)
theorem JEf:Jd Tryz.prog 15:=Je Tryz.func15 (by kernel_rfl) (by kernel_rfl)
theorem JD3:Jd Tryz.prog 16:=Je Tryz.func16 (by kernel_rfl) (by kernel_rfl)
theorem JD7:Jd Tryz.prog 17:=Je Tryz.func17 (by kernel_rfl) (by kernel_rfl)
theorem Jyn:Jd Tryz.prog 18:=Je Tryz.func18 (by kernel_rfl) (by kernel_rfl)
theorem JDB:Jd Tryz.prog 19:=Je Tryz.func19 (by kernel_rfl) (by kernel_rfl)
theorem JDv:Jd Tryz.prog 20:=Je Tryz.func20 (by kernel_rfl) (by kernel_rfl)
theorem JEy:Jd Tryz.prog 21:=Je Tryz.func21 (by kernel_rfl) (by kernel_rfl)
theorem Jyz:Jd Tryz.prog 22:=Je Tryz.func22 (by kernel_rfl) (by kernel_rfl)
theorem Jy7:Jd Tryz.prog 23:=Je Tryz.func23 (by kernel_rfl) (by kernel_rfl)
theorem Jx8:Jd Tryz.prog 24:=Je Tryz.func24 (by kernel_rfl) (by kernel_rfl)
theorem JDN:Jd Tryz.prog 27:=Je Tryz.func27 (by kernel_rfl) (by kernel_rfl)
theorem JDW:Jd Tryz.prog 28:=Je Tryz.func28 (by kernel_rfl) (by kernel_rfl)
theorem JDA:Jd Tryz.prog 29:=Je Tryz.func29 (by kernel_rfl) (by kernel_rfl)
theorem JDX:Jd Tryz.prog 30:=Je Tryz.func30 (by kernel_rfl) (by kernel_rfl)
theorem Jx0:Jd Tryz.prog 31:=Je Tryz.func31 (by kernel_rfl) (by kernel_rfl)
theorem JEd:Jd Tryz.prog 32:=Je Tryz.func32 (by kernel_rfl) (by kernel_rfl)
theorem JEI:Jd Tryz.prog 33:=Je Tryz.func33 (by kernel_rfl) (by kernel_rfl)
theorem JED:Jd Tryz.prog 34:=Je Tryz.func34 (by kernel_rfl) (by kernel_rfl)
theorem JDt:Jd Tryz.prog 35:=Je Tryz.func35 (by kernel_rfl) (by kernel_rfl)
theorem JDE:Jd Tryz.prog 36:=Je Tryz.func36 (by kernel_rfl) (by kernel_rfl)
theorem JEt:Jd Tryz.prog 37:=Je Tryz.func37 (by kernel_rfl) (by kernel_rfl)
theorem Jx1:Jd Tryz.prog 38:=Je Tryz.func38 (by kernel_rfl) (by kernel_rfl)
theorem JEk:Jd Tryz.prog 39:=Je Tryz.func39 (by kernel_rfl) (by kernel_rfl)
theorem JyQ:Jd Tryz.prog 41:=Je Tryz.func41 (by kernel_rfl) (by kernel_rfl)
theorem JyF:Jd Tryz.prog 42:=Je Tryz.func42 (by kernel_rfl) (by kernel_rfl)
theorem JDJ:Jd Tryz.prog 43:=Je Tryz.func43 (by kernel_rfl) (by kernel_rfl)
theorem JDT:Jd Tryz.prog 44:=Je Tryz.func44 (by kernel_rfl) (by kernel_rfl)
theorem JD1:Jd Tryz.prog 45:=Je Tryz.func45 (by kernel_rfl) (by kernel_rfl)
theorem JDs:Jd Tryz.prog 46:=Je Tryz.func46 (by kernel_rfl) (by kernel_rfl)
theorem JEE:Jd Tryz.prog 47:=Je Tryz.func47 (by kernel_rfl) (by kernel_rfl)
theorem JEJ:Jd Tryz.prog 48:=Je Tryz.func48 (by kernel_rfl) (by kernel_rfl)
theorem JEv:Jd Tryz.prog 49:=Je Tryz.func49 (by kernel_rfl) (by kernel_rfl)
theorem JDV:Jd Tryz.prog 50:=Je Tryz.func50 (by kernel_rfl) (by kernel_rfl)
theorem JDz:Jd Tryz.prog 51:=Je Tryz.func51 (by kernel_rfl) (by kernel_rfl)
theorem JDS:Jd Tryz.prog 52:=Je Tryz.func52 (by kernel_rfl) (by kernel_rfl)
theorem JEa:Jd Tryz.prog 53:=Je Tryz.func53 (by kernel_rfl) (by kernel_rfl)
theorem JEw:Jd Tryz.prog 54:=Je Tryz.func54 (by kernel_rfl) (by kernel_rfl)
theorem JEe:Jd Tryz.prog 55:=Je Tryz.func55 (by kernel_rfl) (by kernel_rfl)
theorem JEg:Jd Tryz.prog 56:=Je Tryz.func56 (by kernel_rfl) (by kernel_rfl)
theorem JEr:Jd Tryz.prog 57:=Je Tryz.func57 (by kernel_rfl) (by kernel_rfl)
theorem Jyg:Jd Tryz.prog 58:=Je Tryz.func58 (by kernel_rfl) (by kernel_rfl)
theorem JyW:Jd Tryz.prog 60:=Je Tryz.func60 (by kernel_rfl) (by kernel_rfl)
theorem JEC:Jd Tryz.prog 65:=Je Tryz.func65 (by kernel_rfl) (by kernel_rfl)
theorem JD6:Jd Tryz.prog 66:=Je Tryz.func66 (by kernel_rfl) (by kernel_rfl)
theorem JDZ:Jd Tryz.prog 67:=Je Tryz.func67 (by kernel_rfl) (by kernel_rfl)
theorem JqT:Jd Tryz.prog 68:=Je Tryz.func68 (by kernel_rfl) (by kernel_rfl)
theorem JEu:Jd Tryz.prog 69:=Je Tryz.func69 (by kernel_rfl) (by kernel_rfl)
theorem JqB:Jd Tryz.prog 70:=Je Tryz.func70 (by kernel_rfl) (by kernel_rfl)
theorem JDL:Jd Tryz.prog 71:=Je Tryz.func71 (by kernel_rfl) (by kernel_rfl)
theorem Jq6:Jd Tryz.prog 72:=Je Tryz.func72 (by kernel_rfl) (by kernel_rfl)
theorem JEl:Jd Tryz.prog 73:=Je Tryz.func73 (by kernel_rfl) (by kernel_rfl)
theorem JDG:Jd Tryz.prog 74:=Je Tryz.func74 (by kernel_rfl) (by kernel_rfl)
theorem JD4:Jd Tryz.prog 75:=Je Tryz.func75 (by kernel_rfl) (by kernel_rfl)
theorem JEm:Jd Tryz.prog 76:=Je Tryz.func76 (by kernel_rfl) (by kernel_rfl)
theorem JDC:Jd Tryz.prog 77:=Je Tryz.func77 (by kernel_rfl) (by kernel_rfl)
theorem JEq:Jd Tryz.prog 78:=Je Tryz.func78 (by kernel_rfl) (by kernel_rfl)
theorem JEB:Jd Tryz.prog 79:=Je Tryz.func79 (by kernel_rfl) (by kernel_rfl)
theorem JDO:Jd Tryz.prog 80:=Je Tryz.func80 (by kernel_rfl) (by kernel_rfl)
theorem JDr:Jd Tryz.prog 81:=Je Tryz.func81 (by kernel_rfl) (by kernel_rfl)
theorem JEF:Jd Tryz.prog 85:=Je Tryz.func85 (by kernel_rfl) (by kernel_rfl)
theorem JqD:Jd Tryz.prog 86:=Je Tryz.func86 (by kernel_rfl) (by kernel_rfl)
theorem JD2:Jd Tryz.prog 90:=Je Tryz.func90 (by kernel_rfl) (by kernel_rfl)
theorem JEi:Jd Tryz.prog 91:=Je Tryz.func91 (by kernel_rfl) (by kernel_rfl)
theorem JBL:Jd Tryz.prog 100:=Je Tryz.func100 (by kernel_rfl) (by kernel_rfl)
theorem JCg:Jd Tryz.prog 101:=Je Tryz.func101 (by kernel_rfl) (by kernel_rfl)
theorem JvD:Jd Tryz.prog 102:=Je Tryz.func102 (by kernel_rfl) (by kernel_rfl)
theorem Jwb:Jd Tryz.prog 103:=Je Tryz.func103 (by kernel_rfl) (by kernel_rfl)
theorem JBY:Jd Tryz.prog 104:=Je Tryz.func104 (by kernel_rfl) (by kernel_rfl)
theorem JBE:Jd Tryz.prog 105:=Je Tryz.func105 (by kernel_rfl) (by kernel_rfl)
theorem JCj:Jd Tryz.prog 106:=Je Tryz.func106 (by kernel_rfl) (by kernel_rfl)
theorem JB5:Jd Tryz.prog 108:=Je Tryz.func108 (by kernel_rfl) (by kernel_rfl)
theorem JB4:Jd Tryz.prog 109:=Je Tryz.func109 (by kernel_rfl) (by kernel_rfl)
theorem JCR:Jd Tryz.prog 110:=Je Tryz.func110 (by kernel_rfl) (by kernel_rfl)
theorem JBV:Jd Tryz.prog 114:=Je Tryz.func114 (by kernel_rfl) (by kernel_rfl)
theorem JCh:Jd Tryz.prog 115:=Je Tryz.func115 (by kernel_rfl) (by kernel_rfl)
theorem JCv:Jd Tryz.prog 116:=Je Tryz.func116 (by kernel_rfl) (by kernel_rfl)
theorem Jwt:Jd Tryz.prog 121:=Je Tryz.func121 (by kernel_rfl) (by kernel_rfl)
theorem JCO:Jd Tryz.prog 122:=Je Tryz.func122 (by kernel_rfl) (by kernel_rfl)
theorem JCM:Jd Tryz.prog 123:=Je Tryz.func123 (by kernel_rfl) (by kernel_rfl)
theorem JBw:Jd Tryz.prog 124:=Je Tryz.func124 (by kernel_rfl) (by kernel_rfl)
theorem JBN:Jd Tryz.prog 125:=Je Tryz.func125 (by kernel_rfl) (by kernel_rfl)
theorem JCL:Jd Tryz.prog 126:=Je Tryz.func126 (by kernel_rfl) (by kernel_rfl)
theorem JBv:Jd Tryz.prog 127:=Je Tryz.func127 (by kernel_rfl) (by kernel_rfl)
theorem JBz:Jd Tryz.prog 128:=Je Tryz.func128 (by kernel_rfl) (by kernel_rfl)
theorem Jod:Jd Tryz.prog 129:=Je Tryz.func129 (by kernel_rfl) (by kernel_rfl)
theorem JCk:Jd Tryz.prog 130:=Je Tryz.func130 (by kernel_rfl) (by kernel_rfl)
theorem JBW:Jd Tryz.prog 131:=Je Tryz.func131 (by kernel_rfl) (by kernel_rfl)
theorem JB3:Jd Tryz.prog 132:=Je Tryz.func132 (by kernel_rfl) (by kernel_rfl)
theorem JCw:Jd Tryz.prog 133:=Je Tryz.func133 (by kernel_rfl) (by kernel_rfl)
theorem JBG:Jd Tryz.prog 138:=Je Tryz.func138 (by kernel_rfl) (by kernel_rfl)
theorem JCl:Jd Tryz.prog 143:=Je Tryz.func143 (by kernel_rfl) (by kernel_rfl)
theorem JBA:Jd Tryz.prog 144:=Je Tryz.func144 (by kernel_rfl) (by kernel_rfl)
theorem JB1:Jd Tryz.prog 145:=Je Tryz.func145 (by kernel_rfl) (by kernel_rfl)
theorem JCn:Jd Tryz.prog 146:=Je Tryz.func146 (by kernel_rfl) (by kernel_rfl)
theorem JCz:Jd Tryz.prog 147:=Je Tryz.func147 (by kernel_rfl) (by kernel_rfl)
theorem JCF:Jd Tryz.prog 148:=Je Tryz.func148 (by kernel_rfl) (by kernel_rfl)
theorem JCQ:Jd Tryz.prog 149:=Je Tryz.func149 (by kernel_rfl) (by kernel_rfl)
theorem JCG:Jd Tryz.prog 159:=Je Tryz.func159 (by kernel_rfl) (by kernel_rfl)
theorem JCt:Jd Tryz.prog 160:=Je Tryz.func160 (by kernel_rfl) (by kernel_rfl)
theorem JCJ:Jd Tryz.prog 161:=Je Tryz.func161 (by kernel_rfl) (by kernel_rfl)
theorem JBI:Jd Tryz.prog 162:=Je Tryz.func162 (by kernel_rfl) (by kernel_rfl)
theorem Jvi:Jd Tryz.prog 163:=Je Tryz.func163 (by kernel_rfl) (by kernel_rfl)
theorem JBK:Jd Tryz.prog 166:=Je Tryz.func166 (by kernel_rfl) (by kernel_rfl)
theorem JCV:Jd Tryz.prog 167:=Je Tryz.func167 (by kernel_rfl) (by kernel_rfl)
theorem JCy:Jd Tryz.prog 174:=Je Tryz.func174 (by kernel_rfl) (by kernel_rfl)
theorem JCK:Jd Tryz.prog 177:=Je Tryz.func177 (by kernel_rfl) (by kernel_rfl)
theorem JBF:Jd Tryz.prog 180:=Je Tryz.func180 (by kernel_rfl) (by kernel_rfl)
theorem JyK(l:List UInt8):u8s l=List.map dU l:=rfl
theorem mixed:Tryz.prog.follows .mixedOrders=true:=Tryz.checked.mixed
theorem Jp{α:Type}(σ:Nat→α)(d:Nat)(x:α)(i:Nat):upd σ d x i=if i=d then x else σ i:=rfl
theorem Jk3{α:Type}(l:List α)(i:Nat):(l.drop i).take (l.length-i)=l.drop i:=List.take_of_length_le (by simp)
theorem Jtj{α β:Type}(f:α→β)(l:List α)(i:Nat):(l.map f).drop i=(l.drop i).map f:=List.map_drop.symm
theorem JrZ{α β:Type}(f:α→β)(l:List α)(i:Nat):(l.map f).take i=(l.take i).map f:=List.map_take.symm
theorem Jq{S R:Type}{b:S→Option (S ⊕ R)}{n:Nat}{x:Option R}{o:S ⊕ R}{out:R}(h:inrO x=some o)(hF:Fin' b n o out):x=some out:=by
 obtain⟨r,h1,rfl⟩:=Jz0 h
 cases hF
 exact h1
theorem JA{S R:Type}{b:S→Option (S ⊕ R)}{n:Nat}{s:S}{o:S ⊕ R}{out:R}(h:(some (.inl s):Option (S ⊕ R))=some o)(hF:Fin' b n o out):Fin' b n (.inl s) out:=by
 obtain rfl:=Option.some.inj h
 exact hF
end Go.Proofs.YtfkhlbhjhdpkoaaGreatDoor
