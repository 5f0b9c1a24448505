/- Facts on types,and which functions can be called. -/
import Derived.Test.YtfkhlbhjhdpkoaaGreatDoorZrae
import Derived.Test.YtfkhlbhjhdpkoaaGreatDoorRows
set_option linter.unusedVariables false
set_option linter.unusedSimpArgs false
namespace Go.Proofs.YtfkhlbhjhdpkoaaGreatDoor
open Go.RowKit
theorem Jui:JH Tryz.prog 3=true:=by kernel_rfl
theorem JvF:Jq Tryz.prog 3=1:=by kernel_rfl
theorem Jyf:tAgg Tryz.prog 3=false:=by kernel_rfl
theorem JyH:tZok Tryz.prog 3=true:=by kernel_rfl
theorem tZ_3:tZ Tryz.prog 3=[.int .i64 0]:=by kernel_rfl
theorem JA3:tCS Tryz.prog 3=[0]:=by kernel_rfl
theorem JtU:Vq Tryz.prog 3=8:=by kernel_rfl
theorem JsS:JH Tryz.prog 4=true:=by kernel_rfl
theorem JwQ:Jq Tryz.prog 4=1:=by kernel_rfl
theorem JyM:tAgg Tryz.prog 4=false:=by kernel_rfl
theorem Jy7:tZok Tryz.prog 4=true:=by kernel_rfl
theorem tZ_4:tZ Tryz.prog 4=[.bool false]:=by kernel_rfl
theorem JAW:tCS Tryz.prog 4=[0]:=by kernel_rfl
theorem JtE:Vq Tryz.prog 4=1:=by kernel_rfl
theorem JtX:JH Tryz.prog 5=true:=by kernel_rfl
theorem JwG:Jq Tryz.prog 5=1:=by kernel_rfl
theorem Jys:tAgg Tryz.prog 5=false:=by kernel_rfl
theorem JxM:tZok Tryz.prog 5=true:=by kernel_rfl
theorem tZ_5:tZ Tryz.prog 5=[.int .u8 0]:=by kernel_rfl
theorem JAJ:tCS Tryz.prog 5=[0]:=by kernel_rfl
theorem JsT:Vq Tryz.prog 5=1:=by kernel_rfl
theorem JAR:tZ1 Tryz.prog 5=true:=by kernel_rfl
theorem Jtq:JH Tryz.prog 9=true:=by kernel_rfl
theorem JvZ:Jq Tryz.prog 9=1:=by kernel_rfl
theorem Jxz:tAgg Tryz.prog 9=false:=by kernel_rfl
theorem Jx2:tZok Tryz.prog 9=true:=by kernel_rfl
theorem tZ_9:tZ Tryz.prog 9=[str []]:=by kernel_rfl
theorem JAP:tCS Tryz.prog 9=[0]:=by kernel_rfl
theorem JsU:Vq Tryz.prog 9=16:=by kernel_rfl
theorem Jn9:Jb0 Tryz.prog 9=true:=by kernel_rfl
theorem Jua:JiK Tryz.prog 20=true:=by kernel_rfl
theorem Jtd:Jb6 Tryz.prog 20=4:=by kernel_rfl
theorem JpG:JH Tryz.prog 24=true:=by kernel_rfl
theorem Js1:Jq Tryz.prog 24=1:=by kernel_rfl
theorem JwC:tAgg Tryz.prog 24=false:=by kernel_rfl
theorem JvQ:tZok Tryz.prog 24=true:=by kernel_rfl
theorem JAZ:tZ Tryz.prog 24=[.slice none 0 0]:=by kernel_rfl
theorem JxQ:tCS Tryz.prog 24=[11]:=by kernel_rfl
theorem Jqt:Vq Tryz.prog 24=24:=by kernel_rfl
theorem JsQ:Jb6 Tryz.prog 24=1:=by kernel_rfl
theorem Jr4:JI Tryz.prog 24=true:=by kernel_rfl
theorem Jus:Ju Tryz.prog 24=44:=by kernel_rfl
theorem JrZ:Jcq 24=true:=by kernel_rfl
theorem JtF:ZP 24=true:=by kernel_rfl
theorem Jqe:JH Tryz.prog 25=true:=by kernel_rfl
theorem JtH:Jq Tryz.prog 25=1:=by kernel_rfl
theorem JvD:tAgg Tryz.prog 25=false:=by kernel_rfl
theorem Jx3:tCS Tryz.prog 25=[1]:=by kernel_rfl
theorem Jrb:JI Tryz.prog 25=true:=by kernel_rfl
theorem Js3:Ju Tryz.prog 25=3:=by kernel_rfl
theorem JrS:Jcq 25=false:=by kernel_rfl
theorem JuG:ZP 25=true:=by kernel_rfl
theorem JqF:JH Tryz.prog 27=true:=by kernel_rfl
theorem JtN:Jq Tryz.prog 27=2:=by kernel_rfl
theorem Jwq:tAgg Tryz.prog 27=true:=by kernel_rfl
theorem JwD:tZok Tryz.prog 27=true:=by kernel_rfl
theorem JAK:tZ Tryz.prog 27=[.slice none 0 0,.slice none 0 0]:=by kernel_rfl
theorem Jyj:tCS Tryz.prog 27=[11,1]:=by kernel_rfl
theorem Jrm:XC Tryz.prog 27=true:=by kernel_rfl
theorem Jlp:Jr Tryz.prog 27 0=true:=by kernel_rfl
theorem Jqj:tOff Tryz.prog 27 0=0:=by kernel_rfl
theorem JpU:tFld Tryz.prog 27 0=24:=by kernel_rfl
theorem Jkb:Jr Tryz.prog 27 1=true:=by kernel_rfl
theorem Jqv:tOff Tryz.prog 27 1=1:=by kernel_rfl
theorem Jo0:tFld Tryz.prog 27 1=25:=by kernel_rfl
theorem JrF:JH Tryz.prog 28=true:=by kernel_rfl
theorem JuI:Jq Tryz.prog 28=1:=by kernel_rfl
theorem JvW:tAgg Tryz.prog 28=false:=by kernel_rfl
theorem JvO:tZok Tryz.prog 28=true:=by kernel_rfl
theorem JAS:tZ Tryz.prog 28=[.slice none 0 0]:=by kernel_rfl
theorem JyG:tCS Tryz.prog 28=[5]:=by kernel_rfl
theorem Jta:Jb6 Tryz.prog 28=1:=by kernel_rfl
theorem JpR:JI Tryz.prog 28=true:=by kernel_rfl
theorem Js7:Ju Tryz.prog 28=63:=by kernel_rfl
theorem Jpj:Jcq 28=true:=by kernel_rfl
theorem Jtc:ZP 28=true:=by kernel_rfl
theorem Jpw:JH Tryz.prog 29=true:=by kernel_rfl
theorem Juy:Jq Tryz.prog 29=1:=by kernel_rfl
theorem Jwt:tAgg Tryz.prog 29=false:=by kernel_rfl
theorem JxX:tCS Tryz.prog 29=[0]:=by kernel_rfl
theorem JqU:JH Tryz.prog 31=true:=by kernel_rfl
theorem Jtk:Jq Tryz.prog 31=3:=by kernel_rfl
theorem Jwn:tAgg Tryz.prog 31=true:=by kernel_rfl
theorem Jwc:tZok Tryz.prog 31=true:=by kernel_rfl
theorem JAX:tZ Tryz.prog 31=[.int .i64 0,.int .i64 0,.int .i64 0]:=by kernel_rfl
theorem JyC:tCS Tryz.prog 31=[0,0,0]:=by kernel_rfl
theorem Jrt:XC Tryz.prog 31=true:=by kernel_rfl
theorem Jlm:Jr Tryz.prog 31 0=true:=by kernel_rfl
theorem Jrl:tOff Tryz.prog 31 0=0:=by kernel_rfl
theorem Jqb:tFld Tryz.prog 31 0=29:=by kernel_rfl
theorem Jkh:Jr Tryz.prog 31 1=true:=by kernel_rfl
theorem JrT:tOff Tryz.prog 31 1=1:=by kernel_rfl
theorem JrC:tFld Tryz.prog 31 1=3:=by kernel_rfl
theorem Jk9:Jr Tryz.prog 31 2=true:=by kernel_rfl
theorem Jrh:tOff Tryz.prog 31 2=2:=by kernel_rfl
theorem Jrr:tFld Tryz.prog 31 2=3:=by kernel_rfl
theorem Jqy:JH Tryz.prog 35=true:=by kernel_rfl
theorem Juf:Jq Tryz.prog 35=2:=by kernel_rfl
theorem JwH:tAgg Tryz.prog 35=true:=by kernel_rfl
theorem Jwj:tZok Tryz.prog 35=true:=by kernel_rfl
theorem JA2:tZ Tryz.prog 35=[str [],str []]:=by kernel_rfl
theorem JxE:tCS Tryz.prog 35=[0,0]:=by kernel_rfl
theorem Jpn:Vq Tryz.prog 35=32:=by kernel_rfl
theorem Jqa:XC Tryz.prog 35=true:=by kernel_rfl
theorem JkT:Jr Tryz.prog 35 0=true:=by kernel_rfl
theorem JrI:tOff Tryz.prog 35 0=0:=by kernel_rfl
theorem Jp6:tFld Tryz.prog 35 0=9:=by kernel_rfl
theorem Jkp:Jr Tryz.prog 35 1=true:=by kernel_rfl
theorem JqO:tOff Tryz.prog 35 1=1:=by kernel_rfl
theorem Jrz:tFld Tryz.prog 35 1=9:=by kernel_rfl
theorem Jq2:JH Tryz.prog 37=true:=by kernel_rfl
theorem JtP:Jq Tryz.prog 37=1:=by kernel_rfl
theorem Jwv:tAgg Tryz.prog 37=false:=by kernel_rfl
theorem JyO:tCS Tryz.prog 37=[2]:=by kernel_rfl
theorem Jq0:JI Tryz.prog 37=true:=by kernel_rfl
theorem Jue:Ju Tryz.prog 37=35:=by kernel_rfl
theorem JpD:Jcq 37=false:=by kernel_rfl
theorem Jtw:ZP 37=false:=by kernel_rfl
theorem Jpq:JH Tryz.prog 39=true:=by kernel_rfl
theorem Juv:Jq Tryz.prog 39=3:=by kernel_rfl
theorem Jwe:tAgg Tryz.prog 39=true:=by kernel_rfl
theorem Jwb:tZok Tryz.prog 39=true:=by kernel_rfl
theorem JBa:tZ Tryz.prog 39=[.int .i64 0,.int .i64 0,.int .i64 0]:=by kernel_rfl
theorem JxY:tCS Tryz.prog 39=[0,0,0]:=by kernel_rfl
theorem Jqd:XC Tryz.prog 39=true:=by kernel_rfl
theorem JkW:Jr Tryz.prog 39 0=true:=by kernel_rfl
theorem JrD:tOff Tryz.prog 39 0=0:=by kernel_rfl
theorem Jo8:tFld Tryz.prog 39 0=3:=by kernel_rfl
theorem Jkf:Jr Tryz.prog 39 1=true:=by kernel_rfl
theorem Jo3:tOff Tryz.prog 39 1=1:=by kernel_rfl
theorem Jra:tFld Tryz.prog 39 1=3:=by kernel_rfl
theorem JkS:Jr Tryz.prog 39 2=true:=by kernel_rfl
theorem JrL:tOff Tryz.prog 39 2=2:=by kernel_rfl
theorem JrQ:tFld Tryz.prog 39 2=3:=by kernel_rfl
theorem Jrp:JH Tryz.prog 41=true:=by kernel_rfl
theorem Juu:Jq Tryz.prog 41=1:=by kernel_rfl
theorem Jww:tAgg Tryz.prog 41=false:=by kernel_rfl
theorem JvI:tZok Tryz.prog 41=true:=by kernel_rfl
theorem JAQ:tZ Tryz.prog 41=[.slice none 0 0]:=by kernel_rfl
theorem JxH:tCS Tryz.prog 41=[1]:=by kernel_rfl
theorem Jr2:Vq Tryz.prog 41=24:=by kernel_rfl
theorem Jte:Jb6 Tryz.prog 41=1:=by kernel_rfl
theorem JpH:JI Tryz.prog 41=true:=by kernel_rfl
theorem Jt1:Ju Tryz.prog 41=9:=by kernel_rfl
theorem JqL:Jcq 41=false:=by kernel_rfl
theorem JtB:ZP 41=true:=by kernel_rfl
theorem Jpy:JH Tryz.prog 42=true:=by kernel_rfl
theorem Jtn:Jq Tryz.prog 42=1:=by kernel_rfl
theorem Jvz:tAgg Tryz.prog 42=false:=by kernel_rfl
theorem Jwz:tZok Tryz.prog 42=true:=by kernel_rfl
theorem JBb:tZ Tryz.prog 42=[.slice none 0 0]:=by kernel_rfl
theorem Jx6:tCS Tryz.prog 42=[3]:=by kernel_rfl
theorem JqQ:Vq Tryz.prog 42=24:=by kernel_rfl
theorem JsW:Jb6 Tryz.prog 42=1:=by kernel_rfl
theorem Jqo:JI Tryz.prog 42=true:=by kernel_rfl
theorem JuN:Ju Tryz.prog 42=198:=by kernel_rfl
theorem JrV:Jcq 42=false:=by kernel_rfl
theorem JuX:ZP 42=false:=by kernel_rfl
theorem Jqk:JH Tryz.prog 44=true:=by kernel_rfl
theorem JtL:Jq Tryz.prog 44=11:=by kernel_rfl
theorem JwL:tAgg Tryz.prog 44=true:=by kernel_rfl
theorem Jwk:tZok Tryz.prog 44=true:=by kernel_rfl
theorem JA7:tZ Tryz.prog 44=[.int .i64 0,str [],.bool false,.bool false,.int .i64 0,.int .i64 0,.int .i64 0,.int .i64 0,.slice none 0 0,.slice none 0 0,.int .i64 0]:=by kernel_rfl
theorem Jyy:tCS Tryz.prog 44=[0,0,0,0,0,0,0,0,1,3,0]:=by kernel_rfl
theorem Jp4:Vq Tryz.prog 44=120:=by kernel_rfl
theorem JpM:XC Tryz.prog 44=true:=by kernel_rfl
theorem Jla:Jr Tryz.prog 44 0=true:=by kernel_rfl
theorem Jsb:tOff Tryz.prog 44 0=0:=by kernel_rfl
theorem Jqx:tFld Tryz.prog 44 0=3:=by kernel_rfl
theorem Jlj:Jr Tryz.prog 44 1=true:=by kernel_rfl
theorem Jq9:tOff Tryz.prog 44 1=1:=by kernel_rfl
theorem Jsc:tFld Tryz.prog 44 1=9:=by kernel_rfl
theorem JkE:Jr Tryz.prog 44 2=true:=by kernel_rfl
theorem Jqq:tOff Tryz.prog 44 2=2:=by kernel_rfl
theorem Jrg:tFld Tryz.prog 44 2=4:=by kernel_rfl
theorem Jkw:Jr Tryz.prog 44 3=true:=by kernel_rfl
theorem Jo4:tOff Tryz.prog 44 3=3:=by kernel_rfl
theorem Jsa:tFld Tryz.prog 44 3=4:=by kernel_rfl
theorem Jj9:Jr Tryz.prog 44 4=true:=by kernel_rfl
theorem Jrq:tOff Tryz.prog 44 4=4:=by kernel_rfl
theorem Jse:tFld Tryz.prog 44 4=3:=by kernel_rfl
theorem Jkx:Jr Tryz.prog 44 5=true:=by kernel_rfl
theorem JpP:tOff Tryz.prog 44 5=5:=by kernel_rfl
theorem JpO:tFld Tryz.prog 44 5=3:=by kernel_rfl
theorem JkC:Jr Tryz.prog 44 6=true:=by kernel_rfl
theorem JrO:tOff Tryz.prog 44 6=6:=by kernel_rfl
theorem Jre:tFld Tryz.prog 44 6=3:=by kernel_rfl
theorem Jj6:Jr Tryz.prog 44 7=true:=by kernel_rfl
theorem JpT:tOff Tryz.prog 44 7=7:=by kernel_rfl
theorem Jq5:tFld Tryz.prog 44 7=3:=by kernel_rfl
theorem Jle:Jr Tryz.prog 44 8=true:=by kernel_rfl
theorem JqM:tOff Tryz.prog 44 8=8:=by kernel_rfl
theorem Jrv:tFld Tryz.prog 44 8=41:=by kernel_rfl
theorem JkX:Jr Tryz.prog 44 9=true:=by kernel_rfl
theorem JqT:tOff Tryz.prog 44 9=9:=by kernel_rfl
theorem Jr8:tFld Tryz.prog 44 9=42:=by kernel_rfl
theorem Jju:Jr Tryz.prog 44 10=true:=by kernel_rfl
theorem Jnq:tOff Tryz.prog 44 10=10:=by kernel_rfl
theorem Jog:tFld Tryz.prog 44 10=3:=by kernel_rfl
theorem Jr5:JH Tryz.prog 55=true:=by kernel_rfl
theorem Jts:Jq Tryz.prog 55=1:=by kernel_rfl
theorem Jvw:tAgg Tryz.prog 55=false:=by kernel_rfl
theorem JxF:tCS Tryz.prog 55=[1]:=by kernel_rfl
theorem Jrc:JI Tryz.prog 55=true:=by kernel_rfl
theorem JtR:Ju Tryz.prog 55=5:=by kernel_rfl
theorem JqD:Jcq 55=false:=by kernel_rfl
theorem Juz:ZP 55=true:=by kernel_rfl
theorem Jqw:JH Tryz.prog 63=true:=by kernel_rfl
theorem Jt9:Jq Tryz.prog 63=5:=by kernel_rfl
theorem JvB:tAgg Tryz.prog 63=true:=by kernel_rfl
theorem Jwa:tZok Tryz.prog 63=true:=by kernel_rfl
theorem JAT:tZ Tryz.prog 63=[str [],.bool false,.slice none 0 0,.bool false,.slice none 0 0]:=by kernel_rfl
theorem JyV:tCS Tryz.prog 63=[0,0,1,0,11]:=by kernel_rfl
theorem Jqs:Vq Tryz.prog 63=80:=by kernel_rfl
theorem Jp7:XC Tryz.prog 63=true:=by kernel_rfl
theorem Jlo:Jr Tryz.prog 63 0=true:=by kernel_rfl
theorem Jp8:tOff Tryz.prog 63 0=0:=by kernel_rfl
theorem JrR:tFld Tryz.prog 63 0=9:=by kernel_rfl
theorem JkU:Jr Tryz.prog 63 1=true:=by kernel_rfl
theorem JqS:tOff Tryz.prog 63 1=1:=by kernel_rfl
theorem Jo2:tFld Tryz.prog 63 1=4:=by kernel_rfl
theorem Jkk:Jr Tryz.prog 63 2=true:=by kernel_rfl
theorem Jqi:tOff Tryz.prog 63 2=2:=by kernel_rfl
theorem Jr7:tFld Tryz.prog 63 2=41:=by kernel_rfl
theorem Jlf:Jr Tryz.prog 63 3=true:=by kernel_rfl
theorem Jph:tOff Tryz.prog 63 3=3:=by kernel_rfl
theorem Jrk:tFld Tryz.prog 63 3=4:=by kernel_rfl
theorem Jj5:Jr Tryz.prog 63 4=true:=by kernel_rfl
theorem Jq3:tOff Tryz.prog 63 4=4:=by kernel_rfl
theorem JrP:tFld Tryz.prog 63 4=24:=by kernel_rfl
theorem Jwl:tZok Tryz.prog 65=true:=by kernel_rfl
theorem JA9:tZ Tryz.prog 65=[.slice none 0 0,.int .i64 0,.int .i64 0,.int .i64 0,.slice none 0 0,.slice none 0 0,.slice none 0 0,.slice none 0 0,.int .i64 0]:=by kernel_rfl
theorem Jx7:tCS Tryz.prog 65=[2,0,0,0,5,1,11,1,0]:=by kernel_rfl
theorem JoY:XC Tryz.prog 65=true:=by kernel_rfl
theorem Jkt:Jr Tryz.prog 65 0=true:=by kernel_rfl
theorem JpY:tOff Tryz.prog 65 0=0:=by kernel_rfl
theorem Jpp:tFld Tryz.prog 65 0=37:=by kernel_rfl
theorem JkL:Jr Tryz.prog 65 1=true:=by kernel_rfl
theorem Jr9:tOff Tryz.prog 65 1=1:=by kernel_rfl
theorem JqN:tFld Tryz.prog 65 1=39:=by kernel_rfl
theorem Jlb:Jr Tryz.prog 65 2=true:=by kernel_rfl
theorem Jq4:tOff Tryz.prog 65 2=4:=by kernel_rfl
theorem Jpo:tFld Tryz.prog 65 2=28:=by kernel_rfl
theorem JkR:Jr Tryz.prog 65 3=true:=by kernel_rfl
theorem Jri:tOff Tryz.prog 65 3=5:=by kernel_rfl
theorem Jqc:tFld Tryz.prog 65 3=25:=by kernel_rfl
theorem Jkl:Jr Tryz.prog 65 4=true:=by kernel_rfl
theorem Jpd:tOff Tryz.prog 65 4=6:=by kernel_rfl
theorem JrY:tFld Tryz.prog 65 4=27:=by kernel_rfl
theorem Jll:Jr Tryz.prog 65 5=true:=by kernel_rfl
theorem JrH:tOff Tryz.prog 65 5=8:=by kernel_rfl
theorem Jqm:tFld Tryz.prog 65 5=3:=by kernel_rfl
theorem Jrn:JH Tryz.prog 70=true:=by kernel_rfl
theorem Jtv:Jq Tryz.prog 70=2:=by kernel_rfl
theorem JwF:tAgg Tryz.prog 70=true:=by kernel_rfl
theorem Jwd:tZok Tryz.prog 70=true:=by kernel_rfl
theorem JAM:tZ Tryz.prog 70=[str [],.slice none 0 0]:=by kernel_rfl
theorem Jx5:tCS Tryz.prog 70=[0,1]:=by kernel_rfl
theorem Jqz:XC Tryz.prog 70=true:=by kernel_rfl
theorem Jlr:Jr Tryz.prog 70 0=true:=by kernel_rfl
theorem JqX:tOff Tryz.prog 70 0=0:=by kernel_rfl
theorem Jrf:tFld Tryz.prog 70 0=9:=by kernel_rfl
theorem Jlq:Jr Tryz.prog 70 1=true:=by kernel_rfl
theorem JqW:tOff Tryz.prog 70 1=1:=by kernel_rfl
theorem Jp9:tFld Tryz.prog 70 1=25:=by kernel_rfl
theorem JpA:JH Tryz.prog 78=true:=by kernel_rfl
theorem JtA:Jq Tryz.prog 78=3:=by kernel_rfl
theorem JwN:tAgg Tryz.prog 78=true:=by kernel_rfl
theorem Jv4:tZok Tryz.prog 78=true:=by kernel_rfl
theorem JA4:tZ Tryz.prog 78=[.int .i64 0,.int .i64 0,.int .i64 0]:=by kernel_rfl
theorem JxK:tCS Tryz.prog 78=[0,0,0]:=by kernel_rfl
theorem Jl5:Jb0 Tryz.prog 78=true:=by kernel_rfl
theorem JrM:XC Tryz.prog 78=true:=by kernel_rfl
theorem Jk2:Jr Tryz.prog 78 0=true:=by kernel_rfl
theorem JpK:tOff Tryz.prog 78 0=0:=by kernel_rfl
theorem JqG:tFld Tryz.prog 78 0=31:=by kernel_rfl
theorem Jr1:JI Tryz.prog 80=true:=by kernel_rfl
theorem Jtf:Ju Tryz.prog 80=90:=by kernel_rfl
theorem Jq1:Jcq 80=true:=by kernel_rfl
theorem JsX:ZP 80=true:=by kernel_rfl
theorem Jpz:JI Tryz.prog 81=true:=by kernel_rfl
theorem JsO:Ju Tryz.prog 81=24:=by kernel_rfl
theorem Jr3:Jcq 81=false:=by kernel_rfl
theorem JtK:ZP 81=true:=by kernel_rfl
theorem JqI:JH Tryz.prog 90=true:=by kernel_rfl
theorem Jux:Jq Tryz.prog 90=14:=by kernel_rfl
theorem Jv3:tAgg Tryz.prog 90=true:=by kernel_rfl
theorem Jvy:tZok Tryz.prog 90=true:=by kernel_rfl
theorem JA6:tZ Tryz.prog 90=[.bool false,.bool false,.bool false,.int .i64 0,str [],.bool false,.bool false,.int .i64 0,.int .i64 0,.int .i64 0,.int .i64 0,.slice none 0 0,.slice none 0 0,.int .i64 0]:=by kernel_rfl
theorem JyL:tCS Tryz.prog 90=[0,0,0,0,0,0,0,0,0,0,0,1,3,0]:=by kernel_rfl
theorem JrW:Vq Tryz.prog 90=128:=by kernel_rfl
theorem JrK:XC Tryz.prog 90=true:=by kernel_rfl
theorem Jld:Jr Tryz.prog 90 0=true:=by kernel_rfl
theorem Jrw:tOff Tryz.prog 90 0=0:=by kernel_rfl
theorem JqC:tFld Tryz.prog 90 0=4:=by kernel_rfl
theorem Jk6:Jr Tryz.prog 90 1=true:=by kernel_rfl
theorem Jrd:tOff Tryz.prog 90 1=1:=by kernel_rfl
theorem JoZ:tFld Tryz.prog 90 1=4:=by kernel_rfl
theorem Jj2:Jr Tryz.prog 90 2=true:=by kernel_rfl
theorem Jqh:tOff Tryz.prog 90 2=2:=by kernel_rfl
theorem Jp2:tFld Tryz.prog 90 2=4:=by kernel_rfl
theorem Jkz:Jr Tryz.prog 90 3=true:=by kernel_rfl
theorem Jqg:tOff Tryz.prog 90 3=3:=by kernel_rfl
theorem JrN:tFld Tryz.prog 90 3=44:=by kernel_rfl
theorem Jwr:tZok Tryz.prog 99=true:=by kernel_rfl
theorem JA0:tZ Tryz.prog 99=[str [],.slice none 0 0,str [],.int .i64 0,.int .i64 0,.slice none 0 0]:=by kernel_rfl
theorem Jyn:tCS Tryz.prog 99=[0,1,0,0,0,11]:=by kernel_rfl
theorem JrJ:XC Tryz.prog 99=true:=by kernel_rfl
theorem Jj8:Jr Tryz.prog 99 0=true:=by kernel_rfl
theorem Jpe:tOff Tryz.prog 99 0=0:=by kernel_rfl
theorem Jpf:tFld Tryz.prog 99 0=70:=by kernel_rfl
theorem JkY:Jr Tryz.prog 99 1=true:=by kernel_rfl
theorem JrX:tOff Tryz.prog 99 1=2:=by kernel_rfl
theorem JqR:tFld Tryz.prog 99 1=9:=by kernel_rfl
theorem JkP:Jr Tryz.prog 99 2=true:=by kernel_rfl
theorem JpL:tOff Tryz.prog 99 2=3:=by kernel_rfl
theorem Jqf:tFld Tryz.prog 99 2=3:=by kernel_rfl
theorem JkQ:Jr Tryz.prog 99 3=true:=by kernel_rfl
theorem Jq7:tOff Tryz.prog 99 3=4:=by kernel_rfl
theorem Jrx:tFld Tryz.prog 99 3=3:=by kernel_rfl
theorem Jk5:Jr Tryz.prog 99 4=true:=by kernel_rfl
theorem Jpr:tOff Tryz.prog 99 4=5:=by kernel_rfl
theorem JpB:tFld Tryz.prog 99 4=24:=by kernel_rfl
theorem JsV:tZok Tryz.prog 155=true:=by kernel_rfl
theorem Jym:tZ Tryz.prog 155=[.slice none 0 0,.slice none 0 0,.int .i64 0,.int .i64 0]:=by kernel_rfl
theorem JvH:tCS Tryz.prog 155=[5,2,0,0]:=by kernel_rfl
theorem Jn2:XC Tryz.prog 155=true:=by kernel_rfl
theorem JjN:Jr Tryz.prog 155 0=true:=by kernel_rfl
theorem JmK:tOff Tryz.prog 155 0=0:=by kernel_rfl
theorem Jm2:tFld Tryz.prog 155 0=28:=by kernel_rfl
theorem Jjz:Jr Tryz.prog 155 1=true:=by kernel_rfl
theorem Jm9:tOff Tryz.prog 155 1=1:=by kernel_rfl
theorem Jmx:tFld Tryz.prog 155 1=37:=by kernel_rfl
theorem JjL:Jr Tryz.prog 155 2=true:=by kernel_rfl
theorem Jmt:tOff Tryz.prog 155 2=2:=by kernel_rfl
theorem JmI:tFld Tryz.prog 155 2=3:=by kernel_rfl
theorem JjB:Jr Tryz.prog 155 3=true:=by kernel_rfl
theorem JmB:tOff Tryz.prog 155 3=3:=by kernel_rfl
theorem JmX:tFld Tryz.prog 155 3=3:=by kernel_rfl
theorem Jnu:JH Tryz.prog 156=true:=by kernel_rfl
theorem JpV:Jq Tryz.prog 156=3:=by kernel_rfl
theorem JuP:tAgg Tryz.prog 156=true:=by kernel_rfl
theorem Jtj:tZok Tryz.prog 156=true:=by kernel_rfl
theorem Jyr:tZ Tryz.prog 156=[.int .i64 0,.int .i64 0,.int .i64 0]:=by kernel_rfl
theorem JvL:tCS Tryz.prog 156=[0,0,0]:=by kernel_rfl
theorem Jky:Jb0 Tryz.prog 156=true:=by kernel_rfl
theorem JnN:XC Tryz.prog 156=true:=by kernel_rfl
theorem Jjy:Jr Tryz.prog 156 0=true:=by kernel_rfl
theorem Jn8:tOff Tryz.prog 156 0=0:=by kernel_rfl
theorem JnA:tFld Tryz.prog 156 0=31:=by kernel_rfl
theorem JmV:JH Tryz.prog 157=true:=by kernel_rfl
theorem Jp1:Jq Tryz.prog 157=1:=by kernel_rfl
theorem Jti:tAgg Tryz.prog 157=false:=by kernel_rfl
theorem Jv0:tCS Tryz.prog 157=[0]:=by kernel_rfl
theorem JtO:tZok Tryz.prog 159=true:=by kernel_rfl
theorem Jyb:tZ Tryz.prog 159=[.slice none 0 0,.int .i64 0,.int .i64 0,.int .i64 0]:=by kernel_rfl
theorem JvR:tCS Tryz.prog 159=[11,0,0,0]:=by kernel_rfl
theorem Job:XC Tryz.prog 159=true:=by kernel_rfl
theorem JjK:Jr Tryz.prog 159 0=true:=by kernel_rfl
theorem Jn4:tOff Tryz.prog 159 0=0:=by kernel_rfl
theorem JmA:tFld Tryz.prog 159 0=24:=by kernel_rfl
theorem JjC:Jr Tryz.prog 159 1=true:=by kernel_rfl
theorem Jmw:tOff Tryz.prog 159 1=1:=by kernel_rfl
theorem Jm1:tFld Tryz.prog 159 1=3:=by kernel_rfl
theorem Jjv:Jr Tryz.prog 159 2=true:=by kernel_rfl
theorem Jmu:tOff Tryz.prog 159 2=2:=by kernel_rfl
theorem Jm5:tFld Tryz.prog 159 2=3:=by kernel_rfl
theorem JjF:Jr Tryz.prog 159 3=true:=by kernel_rfl
theorem Jnr:tOff Tryz.prog 159 3=3:=by kernel_rfl
theorem JmF:tFld Tryz.prog 159 3=3:=by kernel_rfl
theorem Jnx:JH Tryz.prog 170=true:=by kernel_rfl
theorem Jps:Jq Tryz.prog 170=3:=by kernel_rfl
theorem JsR:tAgg Tryz.prog 170=true:=by kernel_rfl
theorem Jt3:tZok Tryz.prog 170=true:=by kernel_rfl
theorem Jx4:tZ Tryz.prog 170=[.int .i64 0,.int .i64 0,.int .i64 0]:=by kernel_rfl
theorem Jwx:tCS Tryz.prog 170=[0,0,0]:=by kernel_rfl
theorem JkF:Jb0 Tryz.prog 170=true:=by kernel_rfl
theorem Jm8:XC Tryz.prog 170=true:=by kernel_rfl
theorem JjE:Jr Tryz.prog 170 0=true:=by kernel_rfl
theorem JnC:tOff Tryz.prog 170 0=0:=by kernel_rfl
theorem JmG:tFld Tryz.prog 170 0=31:=by kernel_rfl
theorem JnQ:JH Tryz.prog 171=true:=by kernel_rfl
theorem Jpl:Jq Tryz.prog 171=1:=by kernel_rfl
theorem JtY:tAgg Tryz.prog 171=false:=by kernel_rfl
theorem Juc:tZok Tryz.prog 171=true:=by kernel_rfl
theorem JyP:tZ Tryz.prog 171=[.slice none 0 0]:=by kernel_rfl
theorem JvY:tCS Tryz.prog 171=[11]:=by kernel_rfl
theorem JpX:Jb6 Tryz.prog 171=1:=by kernel_rfl
theorem JmZ:JI Tryz.prog 171=true:=by kernel_rfl
theorem Jrj:Ju Tryz.prog 171=44:=by kernel_rfl
theorem JmU:Jcq 171=true:=by kernel_rfl
theorem Jpb:ZP 171=true:=by kernel_rfl
theorem Jny:JH Tryz.prog 178=true:=by kernel_rfl
theorem Jqr:Jq Tryz.prog 178=2:=by kernel_rfl
theorem Jto:tAgg Tryz.prog 178=true:=by kernel_rfl
theorem JmR:XC Tryz.prog 178=true:=by kernel_rfl
theorem JpJ:JsE Tryz.prog 178=2:=by kernel_rfl
theorem Jub:tAEl Tryz.prog 178=3:=by kernel_rfl
theorem JuQ:tAOk Tryz.prog 178=true:=by kernel_rfl
theorem Jtm:tZok Tryz.prog 178=true:=by kernel_rfl
theorem Jyc:tZ Tryz.prog 178=[.int .i64 0,.int .i64 0]:=by kernel_rfl
theorem JwM:tCS Tryz.prog 178=[0]:=by kernel_rfl
theorem JnV:JH Tryz.prog 198=true:=by kernel_rfl
theorem JqA:Jq Tryz.prog 198=3:=by kernel_rfl
theorem Jut:tAgg Tryz.prog 198=true:=by kernel_rfl
theorem JsJ:tZok Tryz.prog 198=true:=by kernel_rfl
theorem JyI:tZ Tryz.prog 198=[str [],.int .i64 0,.int .i64 0]:=by kernel_rfl
theorem JvX:tCS Tryz.prog 198=[0,0,0]:=by kernel_rfl
theorem JmL:Vq Tryz.prog 198=32:=by kernel_rfl
theorem Jn5:XC Tryz.prog 198=true:=by kernel_rfl
theorem Jjt:Jr Tryz.prog 198 0=true:=by kernel_rfl
theorem Jnv:tOff Tryz.prog 198 0=0:=by kernel_rfl
theorem JnP:tFld Tryz.prog 198 0=9:=by kernel_rfl
theorem JjM:Jr Tryz.prog 198 1=true:=by kernel_rfl
theorem JnF:tOff Tryz.prog 198 1=1:=by kernel_rfl
theorem JmM:tFld Tryz.prog 198 1=3:=by kernel_rfl
theorem Jjr:Jr Tryz.prog 198 2=true:=by kernel_rfl
theorem Jnd:tOff Tryz.prog 198 2=2:=by kernel_rfl
theorem JnO:tFld Tryz.prog 198 2=3:=by kernel_rfl
theorem JnH:JH Tryz.prog 210=true:=by kernel_rfl
theorem JrE:Jq Tryz.prog 210=1:=by kernel_rfl
theorem JuO:tAgg Tryz.prog 210=false:=by kernel_rfl
theorem Jv6:tCS Tryz.prog 210=[0]:=by kernel_rfl
theorem JpI:Jb6 Tryz.prog 210=4:=by kernel_rfl
theorem JnL:JI Tryz.prog 224=true:=by kernel_rfl
theorem JpF:Ju Tryz.prog 224=41:=by kernel_rfl
theorem Jnj:JI Tryz.prog 227=true:=by kernel_rfl
theorem Jo1:Ju Tryz.prog 227=42:=by kernel_rfl
theorem y_3:((((type_of% @Tryz.underlying3)∧(type_of% @Jyf))∧((type_of% @JtU)∧(type_of% @JA3)))∧(((type_of% @Jui)∧(type_of% @JvF))∧((type_of% @tZ_3)∧(type_of% @JyH)))):=⟨⟨⟨@Tryz.underlying3,@Jyf⟩,⟨@JtU,@JA3⟩⟩,⟨⟨@Jui,@JvF⟩,⟨@tZ_3,@JyH⟩⟩⟩
theorem y_4:((((type_of% @Tryz.underlying4)∧(type_of% @JyM))∧((type_of% @JtE)∧(type_of% @JAW)))∧(((type_of% @JsS)∧(type_of% @JwQ))∧((type_of% @tZ_4)∧(type_of% @Jy7)))):=⟨⟨⟨@Tryz.underlying4,@JyM⟩,⟨@JtE,@JAW⟩⟩,⟨⟨@JsS,@JwQ⟩,⟨@tZ_4,@Jy7⟩⟩⟩
theorem y_5:((((type_of% @Tryz.underlying5)∧(type_of% @Jys))∧((type_of% @JsT)∧(type_of% @JAJ)))∧(((type_of% @JtX)∧(type_of% @JwG))∧((type_of% @JAR)∧((type_of% @tZ_5)∧(type_of% @JxM))))):=⟨⟨⟨@Tryz.underlying5,@Jys⟩,⟨@JsT,@JAJ⟩⟩,⟨⟨@JtX,@JwG⟩,⟨@JAR,⟨@tZ_5,@JxM⟩⟩⟩⟩
theorem y_9:((((type_of% @Tryz.underlying9)∧(type_of% @Jxz))∧((type_of% @JsU)∧(type_of% @JAP)))∧(((type_of% @Jtq)∧(type_of% @Jn9))∧((type_of% @JvZ)∧((type_of% @tZ_9)∧(type_of% @Jx2))))):=⟨⟨⟨@Tryz.underlying9,@Jxz⟩,⟨@JsU,@JAP⟩⟩,⟨⟨@Jtq,@Jn9⟩,⟨@JvZ,⟨@tZ_9,@Jx2⟩⟩⟩⟩
theorem y_20:((type_of% @Jua)∧(type_of% @Jtd)):=⟨@Jua,@Jtd⟩
theorem y_24:((((type_of% @JrZ)∧((type_of% @JtF)∧(type_of% @JwC)))∧((type_of% @Jqt)∧((type_of% @JxQ)∧(type_of% @Jus))))∧(((type_of% @JpG)∧((type_of% @JsQ)∧(type_of% @Js1)))∧((type_of% @Jr4)∧((type_of% @JAZ)∧(type_of% @JvQ))))):=⟨⟨⟨@JrZ,⟨@JtF,@JwC⟩⟩,⟨@Jqt,⟨@JxQ,@Jus⟩⟩⟩,⟨⟨@JpG,⟨@JsQ,@Js1⟩⟩,⟨@Jr4,⟨@JAZ,@JvQ⟩⟩⟩⟩
theorem y_25:((((type_of% @JrS)∧(type_of% @JuG))∧((type_of% @JvD)∧(type_of% @Jx3)))∧(((type_of% @Js3)∧(type_of% @Jqe))∧((type_of% @JtH)∧(type_of% @Jrb)))):=⟨⟨⟨@JrS,@JuG⟩,⟨@JvD,@Jx3⟩⟩,⟨⟨@Js3,@Jqe⟩,⟨@JtH,@Jrb⟩⟩⟩
theorem y_27:((((type_of% @Jwq)∧((type_of% @Jyj)∧(type_of% @JpU)))∧((type_of% @Jo0)∧((type_of% @JqF)∧(type_of% @Jqj))))∧(((type_of% @Jqv)∧((type_of% @Jrm)∧(type_of% @JtN)))∧(((type_of% @Jlp)∧(type_of% @Jkb))∧((type_of% @JAK)∧(type_of% @JwD))))):=⟨⟨⟨@Jwq,⟨@Jyj,@JpU⟩⟩,⟨@Jo0,⟨@JqF,@Jqj⟩⟩⟩,⟨⟨@Jqv,⟨@Jrm,@JtN⟩⟩,⟨⟨@Jlp,@Jkb⟩,⟨@JAK,@JwD⟩⟩⟩⟩
theorem y_28:((((type_of% @Jpj)∧(type_of% @Jtc))∧((type_of% @JvW)∧((type_of% @JyG)∧(type_of% @Js7))))∧(((type_of% @JrF)∧((type_of% @Jta)∧(type_of% @JuI)))∧((type_of% @JpR)∧((type_of% @JAS)∧(type_of% @JvO))))):=⟨⟨⟨@Jpj,@Jtc⟩,⟨@JvW,⟨@JyG,@Js7⟩⟩⟩,⟨⟨@JrF,⟨@Jta,@JuI⟩⟩,⟨@JpR,⟨@JAS,@JvO⟩⟩⟩⟩
theorem y_29:(((type_of% @Jwt)∧(type_of% @JxX))∧((type_of% @Jpw)∧(type_of% @Juy))):=⟨⟨@Jwt,@JxX⟩,⟨@Jpw,@Juy⟩⟩
theorem y_31:(((((type_of% @Jwn)∧(type_of% @JyC))∧((type_of% @Jqb)∧(type_of% @JrC)))∧(((type_of% @Jrr)∧(type_of% @JqU))∧((type_of% @Jrl)∧(type_of% @JrT))))∧((((type_of% @Jrh)∧(type_of% @Jrt))∧((type_of% @Jtk)∧(type_of% @Jlm)))∧(((type_of% @Jkh)∧(type_of% @Jk9))∧((type_of% @JAX)∧(type_of% @Jwc))))):=⟨⟨⟨⟨@Jwn,@JyC⟩,⟨@Jqb,@JrC⟩⟩,⟨⟨@Jrr,@JqU⟩,⟨@Jrl,@JrT⟩⟩⟩,⟨⟨⟨@Jrh,@Jrt⟩,⟨@Jtk,@Jlm⟩⟩,⟨⟨@Jkh,@Jk9⟩,⟨@JAX,@Jwc⟩⟩⟩⟩
theorem y_35:((((type_of% @JwH)∧((type_of% @Jpn)∧(type_of% @JxE)))∧(((type_of% @Jp6)∧(type_of% @Jrz))∧((type_of% @Jqy)∧(type_of% @JrI))))∧(((type_of% @JqO)∧((type_of% @Jqa)∧(type_of% @Juf)))∧(((type_of% @JkT)∧(type_of% @Jkp))∧((type_of% @JA2)∧(type_of% @Jwj))))):=⟨⟨⟨@JwH,⟨@Jpn,@JxE⟩⟩,⟨⟨@Jp6,@Jrz⟩,⟨@Jqy,@JrI⟩⟩⟩,⟨⟨@JqO,⟨@Jqa,@Juf⟩⟩,⟨⟨@JkT,@Jkp⟩,⟨@JA2,@Jwj⟩⟩⟩⟩
theorem y_37:((((type_of% @JpD)∧(type_of% @Jtw))∧((type_of% @Jwv)∧(type_of% @JyO)))∧(((type_of% @Jue)∧(type_of% @Jq2))∧((type_of% @JtP)∧(type_of% @Jq0)))):=⟨⟨⟨@JpD,@Jtw⟩,⟨@Jwv,@JyO⟩⟩,⟨⟨@Jue,@Jq2⟩,⟨@JtP,@Jq0⟩⟩⟩
theorem y_39:(((((type_of% @Jwe)∧(type_of% @JxY))∧((type_of% @Jo8)∧(type_of% @Jra)))∧(((type_of% @JrQ)∧(type_of% @Jpq))∧((type_of% @JrD)∧(type_of% @Jo3))))∧((((type_of% @JrL)∧(type_of% @Jqd))∧((type_of% @Juv)∧(type_of% @JkW)))∧(((type_of% @Jkf)∧(type_of% @JkS))∧((type_of% @JBa)∧(type_of% @Jwb))))):=⟨⟨⟨⟨@Jwe,@JxY⟩,⟨@Jo8,@Jra⟩⟩,⟨⟨@JrQ,@Jpq⟩,⟨@JrD,@Jo3⟩⟩⟩,⟨⟨⟨@JrL,@Jqd⟩,⟨@Juv,@JkW⟩⟩,⟨⟨@Jkf,@JkS⟩,⟨@JBa,@Jwb⟩⟩⟩⟩
theorem y_41:((((type_of% @JqL)∧((type_of% @JtB)∧(type_of% @Jww)))∧((type_of% @Jr2)∧((type_of% @JxH)∧(type_of% @Jt1))))∧(((type_of% @Jrp)∧((type_of% @Jte)∧(type_of% @Juu)))∧((type_of% @JpH)∧((type_of% @JAQ)∧(type_of% @JvI))))):=⟨⟨⟨@JqL,⟨@JtB,@Jww⟩⟩,⟨@Jr2,⟨@JxH,@Jt1⟩⟩⟩,⟨⟨@Jrp,⟨@Jte,@Juu⟩⟩,⟨@JpH,⟨@JAQ,@JvI⟩⟩⟩⟩
theorem y_42:((((type_of% @JrV)∧((type_of% @JuX)∧(type_of% @Jvz)))∧((type_of% @JqQ)∧((type_of% @Jx6)∧(type_of% @JuN))))∧(((type_of% @Jpy)∧((type_of% @JsW)∧(type_of% @Jtn)))∧((type_of% @Jqo)∧((type_of% @JBb)∧(type_of% @Jwz))))):=⟨⟨⟨@JrV,⟨@JuX,@Jvz⟩⟩,⟨@JqQ,⟨@Jx6,@JuN⟩⟩⟩,⟨⟨@Jpy,⟨@JsW,@Jtn⟩⟩,⟨@Jqo,⟨@JBb,@Jwz⟩⟩⟩⟩
theorem y_44:((((((type_of% @JwL)∧(type_of% @Jp4))∧((type_of% @Jyy)∧((type_of% @Jqx)∧(type_of% @Jsc))))∧(((type_of% @Jog)∧(type_of% @Jrg))∧((type_of% @Jsa)∧((type_of% @Jse)∧(type_of% @JpO)))))∧((((type_of% @Jre)∧(type_of% @Jq5))∧((type_of% @Jrv)∧((type_of% @Jr8)∧(type_of% @Jqk))))∧(((type_of% @Jsb)∧(type_of% @Jq9))∧((type_of% @Jnq)∧((type_of% @Jqq)∧(type_of% @Jo4))))))∧(((((type_of% @Jrq)∧(type_of% @JpP))∧((type_of% @JrO)∧((type_of% @JpT)∧(type_of% @JqM))))∧(((type_of% @JqT)∧(type_of% @JpM))∧((type_of% @JtL)∧((type_of% @Jla)∧(type_of% @Jlj)))))∧((((type_of% @Jju)∧(type_of% @JkE))∧((type_of% @Jkw)∧((type_of% @Jj9)∧(type_of% @Jkx))))∧(((type_of% @JkC)∧((type_of% @Jj6)∧(type_of% @Jle)))∧((type_of% @JkX)∧((type_of% @JA7)∧(type_of% @Jwk))))))):=⟨⟨⟨⟨⟨@JwL,@Jp4⟩,⟨@Jyy,⟨@Jqx,@Jsc⟩⟩⟩,⟨⟨@Jog,@Jrg⟩,⟨@Jsa,⟨@Jse,@JpO⟩⟩⟩⟩,⟨⟨⟨@Jre,@Jq5⟩,⟨@Jrv,⟨@Jr8,@Jqk⟩⟩⟩,⟨⟨@Jsb,@Jq9⟩,⟨@Jnq,⟨@Jqq,@Jo4⟩⟩⟩⟩⟩,⟨⟨⟨⟨@Jrq,@JpP⟩,⟨@JrO,⟨@JpT,@JqM⟩⟩⟩,⟨⟨@JqT,@JpM⟩,⟨@JtL,⟨@Jla,@Jlj⟩⟩⟩⟩,⟨⟨⟨@Jju,@JkE⟩,⟨@Jkw,⟨@Jj9,@Jkx⟩⟩⟩,⟨⟨@JkC,⟨@Jj6,@Jle⟩⟩,⟨@JkX,⟨@JA7,@Jwk⟩⟩⟩⟩⟩⟩
theorem y_55:((((type_of% @Tryz.underlying55)∧(type_of% @JqD))∧((type_of% @Juz)∧(type_of% @Jvw)))∧(((type_of% @JxF)∧(type_of% @JtR))∧((type_of% @Jr5)∧((type_of% @Jts)∧(type_of% @Jrc))))):=⟨⟨⟨@Tryz.underlying55,@JqD⟩,⟨@Juz,@Jvw⟩⟩,⟨⟨@JxF,@JtR⟩,⟨@Jr5,⟨@Jts,@Jrc⟩⟩⟩⟩
theorem y_63:(((((type_of% @JvB)∧(type_of% @Jqs))∧((type_of% @JyV)∧((type_of% @JrR)∧(type_of% @Jo2))))∧(((type_of% @Jr7)∧((type_of% @Jrk)∧(type_of% @JrP)))∧((type_of% @Jqw)∧((type_of% @Jp8)∧(type_of% @JqS)))))∧((((type_of% @Jqi)∧((type_of% @Jph)∧(type_of% @Jq3)))∧((type_of% @Jp7)∧((type_of% @Jt9)∧(type_of% @Jlo))))∧(((type_of% @JkU)∧((type_of% @Jkk)∧(type_of% @Jlf)))∧((type_of% @Jj5)∧((type_of% @JAT)∧(type_of% @Jwa)))))):=⟨⟨⟨⟨@JvB,@Jqs⟩,⟨@JyV,⟨@JrR,@Jo2⟩⟩⟩,⟨⟨@Jr7,⟨@Jrk,@JrP⟩⟩,⟨@Jqw,⟨@Jp8,@JqS⟩⟩⟩⟩,⟨⟨⟨@Jqi,⟨@Jph,@Jq3⟩⟩,⟨@Jp7,⟨@Jt9,@Jlo⟩⟩⟩,⟨⟨@JkU,⟨@Jkk,@Jlf⟩⟩,⟨@Jj5,⟨@JAT,@Jwa⟩⟩⟩⟩⟩
theorem y_65:(((((type_of% @Jx7)∧(type_of% @Jpp))∧((type_of% @JqN)∧((type_of% @Jpo)∧(type_of% @Jqc))))∧(((type_of% @JrY)∧((type_of% @Jqm)∧(type_of% @JpY)))∧((type_of% @Jr9)∧((type_of% @Jq4)∧(type_of% @Jri)))))∧((((type_of% @Jpd)∧(type_of% @JrH))∧((type_of% @JoY)∧((type_of% @Jkt)∧(type_of% @JkL))))∧(((type_of% @Jlb)∧((type_of% @JkR)∧(type_of% @Jkl)))∧((type_of% @Jll)∧((type_of% @JA9)∧(type_of% @Jwl)))))):=⟨⟨⟨⟨@Jx7,@Jpp⟩,⟨@JqN,⟨@Jpo,@Jqc⟩⟩⟩,⟨⟨@JrY,⟨@Jqm,@JpY⟩⟩,⟨@Jr9,⟨@Jq4,@Jri⟩⟩⟩⟩,⟨⟨⟨@Jpd,@JrH⟩,⟨@JoY,⟨@Jkt,@JkL⟩⟩⟩,⟨⟨@Jlb,⟨@JkR,@Jkl⟩⟩,⟨@Jll,⟨@JA9,@Jwl⟩⟩⟩⟩⟩
theorem y_70:((((type_of% @JwF)∧((type_of% @Jx5)∧(type_of% @Jrf)))∧((type_of% @Jp9)∧((type_of% @Jrn)∧(type_of% @JqX))))∧(((type_of% @JqW)∧((type_of% @Jqz)∧(type_of% @Jtv)))∧(((type_of% @Jlr)∧(type_of% @Jlq))∧((type_of% @JAM)∧(type_of% @Jwd))))):=⟨⟨⟨@JwF,⟨@Jx5,@Jrf⟩⟩,⟨@Jp9,⟨@Jrn,@JqX⟩⟩⟩,⟨⟨@JqW,⟨@Jqz,@Jtv⟩⟩,⟨⟨@Jlr,@Jlq⟩,⟨@JAM,@Jwd⟩⟩⟩⟩
theorem y_78:((((type_of% @JwN)∧(type_of% @JxK))∧((type_of% @JqG)∧((type_of% @JpA)∧(type_of% @Jl5))))∧(((type_of% @JpK)∧((type_of% @JrM)∧(type_of% @JtA)))∧((type_of% @Jk2)∧((type_of% @JA4)∧(type_of% @Jv4))))):=⟨⟨⟨@JwN,@JxK⟩,⟨@JqG,⟨@JpA,@Jl5⟩⟩⟩,⟨⟨@JpK,⟨@JrM,@JtA⟩⟩,⟨@Jk2,⟨@JA4,@Jv4⟩⟩⟩⟩
theorem y_80:(((type_of% @Jq1)∧(type_of% @JsX))∧((type_of% @Jtf)∧(type_of% @Jr1))):=⟨⟨@Jq1,@JsX⟩,⟨@Jtf,@Jr1⟩⟩
theorem y_81:(((type_of% @Jr3)∧(type_of% @JtK))∧((type_of% @JsO)∧(type_of% @Jpz))):=⟨⟨@Jr3,@JtK⟩,⟨@JsO,@Jpz⟩⟩
theorem y_90:(((((type_of% @Jv3)∧(type_of% @JrW))∧((type_of% @JyL)∧((type_of% @JqC)∧(type_of% @JoZ))))∧(((type_of% @Jp2)∧(type_of% @JrN))∧((type_of% @JqI)∧((type_of% @Jrw)∧(type_of% @Jrd)))))∧((((type_of% @Jqh)∧(type_of% @Jqg))∧((type_of% @JrK)∧((type_of% @Jux)∧(type_of% @Jld))))∧(((type_of% @Jk6)∧(type_of% @Jj2))∧((type_of% @Jkz)∧((type_of% @JA6)∧(type_of% @Jvy)))))):=⟨⟨⟨⟨@Jv3,@JrW⟩,⟨@JyL,⟨@JqC,@JoZ⟩⟩⟩,⟨⟨@Jp2,@JrN⟩,⟨@JqI,⟨@Jrw,@Jrd⟩⟩⟩⟩,⟨⟨⟨@Jqh,@Jqg⟩,⟨@JrK,⟨@Jux,@Jld⟩⟩⟩,⟨⟨@Jk6,@Jj2⟩,⟨@Jkz,⟨@JA6,@Jvy⟩⟩⟩⟩⟩
theorem y_99:(((((type_of% @Jyn)∧(type_of% @Jpf))∧((type_of% @JqR)∧(type_of% @Jqf)))∧(((type_of% @Jrx)∧(type_of% @JpB))∧((type_of% @Jpe)∧((type_of% @JrX)∧(type_of% @JpL)))))∧((((type_of% @Jq7)∧(type_of% @Jpr))∧((type_of% @JrJ)∧((type_of% @Jj8)∧(type_of% @JkY))))∧(((type_of% @JkP)∧(type_of% @JkQ))∧((type_of% @Jk5)∧((type_of% @JA0)∧(type_of% @Jwr)))))):=⟨⟨⟨⟨@Jyn,@Jpf⟩,⟨@JqR,@Jqf⟩⟩,⟨⟨@Jrx,@JpB⟩,⟨@Jpe,⟨@JrX,@JpL⟩⟩⟩⟩,⟨⟨⟨@Jq7,@Jpr⟩,⟨@JrJ,⟨@Jj8,@JkY⟩⟩⟩,⟨⟨@JkP,@JkQ⟩,⟨@Jk5,⟨@JA0,@Jwr⟩⟩⟩⟩⟩
theorem JsG:(((((type_of% @JvH)∧(type_of% @Jm2))∧((type_of% @Jmx)∧(type_of% @JmI)))∧(((type_of% @JmX)∧(type_of% @JmK))∧((type_of% @Jm9)∧(type_of% @Jmt))))∧((((type_of% @JmB)∧(type_of% @Jn2))∧((type_of% @JjN)∧(type_of% @Jjz)))∧(((type_of% @JjL)∧(type_of% @JjB))∧((type_of% @Jym)∧(type_of% @JsV))))):=⟨⟨⟨⟨@JvH,@Jm2⟩,⟨@Jmx,@JmI⟩⟩,⟨⟨@JmX,@JmK⟩,⟨@Jm9,@Jmt⟩⟩⟩,⟨⟨⟨@JmB,@Jn2⟩,⟨@JjN,@Jjz⟩⟩,⟨⟨@JjL,@JjB⟩,⟨@Jym,@JsV⟩⟩⟩⟩
theorem JC5:((((type_of% @JuP)∧(type_of% @JvL))∧((type_of% @JnA)∧((type_of% @Jnu)∧(type_of% @Jky))))∧(((type_of% @Jn8)∧((type_of% @JnN)∧(type_of% @JpV)))∧((type_of% @Jjy)∧((type_of% @Jyr)∧(type_of% @Jtj))))):=⟨⟨⟨@JuP,@JvL⟩,⟨@JnA,⟨@Jnu,@Jky⟩⟩⟩,⟨⟨@Jn8,⟨@JnN,@JpV⟩⟩,⟨@Jjy,⟨@Jyr,@Jtj⟩⟩⟩⟩
theorem JAL:(((type_of% @Jti)∧(type_of% @Jv0))∧((type_of% @JmV)∧(type_of% @Jp1))):=⟨⟨@Jti,@Jv0⟩,⟨@JmV,@Jp1⟩⟩
theorem JiH:(((((type_of% @JvR)∧(type_of% @JmA))∧((type_of% @Jm1)∧(type_of% @Jm5)))∧(((type_of% @JmF)∧(type_of% @Jn4))∧((type_of% @Jmw)∧(type_of% @Jmu))))∧((((type_of% @Jnr)∧(type_of% @Job))∧((type_of% @JjK)∧(type_of% @JjC)))∧(((type_of% @Jjv)∧(type_of% @JjF))∧((type_of% @Jyb)∧(type_of% @JtO))))):=⟨⟨⟨⟨@JvR,@JmA⟩,⟨@Jm1,@Jm5⟩⟩,⟨⟨@JmF,@Jn4⟩,⟨@Jmw,@Jmu⟩⟩⟩,⟨⟨⟨@Jnr,@Job⟩,⟨@JjK,@JjC⟩⟩,⟨⟨@Jjv,@JjF⟩,⟨@Jyb,@JtO⟩⟩⟩⟩
theorem Jxp:((((type_of% @JsR)∧(type_of% @Jwx))∧((type_of% @JmG)∧((type_of% @Jnx)∧(type_of% @JkF))))∧(((type_of% @JnC)∧((type_of% @Jm8)∧(type_of% @Jps)))∧((type_of% @JjE)∧((type_of% @Jx4)∧(type_of% @Jt3))))):=⟨⟨⟨@JsR,@Jwx⟩,⟨@JmG,⟨@Jnx,@JkF⟩⟩⟩,⟨⟨@JnC,⟨@Jm8,@Jps⟩⟩,⟨@JjE,⟨@Jx4,@Jt3⟩⟩⟩⟩
theorem Jn7:((((type_of% @JmU)∧(type_of% @Jpb))∧((type_of% @JtY)∧((type_of% @JvY)∧(type_of% @Jrj))))∧(((type_of% @JnQ)∧((type_of% @JpX)∧(type_of% @Jpl)))∧((type_of% @JmZ)∧((type_of% @JyP)∧(type_of% @Juc))))):=⟨⟨⟨@JmU,@Jpb⟩,⟨@JtY,⟨@JvY,@Jrj⟩⟩⟩,⟨⟨@JnQ,⟨@JpX,@Jpl⟩⟩,⟨@JmZ,⟨@JyP,@Juc⟩⟩⟩⟩
theorem JC7:((((type_of% @Jub)∧(type_of% @JpJ))∧((type_of% @JuQ)∧((type_of% @Jto)∧(type_of% @JwM))))∧(((type_of% @Jny)∧(type_of% @JmR))∧((type_of% @Jqr)∧((type_of% @Jyc)∧(type_of% @Jtm))))):=⟨⟨⟨@Jub,@JpJ⟩,⟨@JuQ,⟨@Jto,@JwM⟩⟩⟩,⟨⟨@Jny,@JmR⟩,⟨@Jqr,⟨@Jyc,@Jtm⟩⟩⟩⟩
theorem JmW:(((((type_of% @Jut)∧(type_of% @JmL))∧((type_of% @JvX)∧(type_of% @JnP)))∧(((type_of% @JmM)∧(type_of% @JnO))∧((type_of% @JnV)∧(type_of% @Jnv))))∧((((type_of% @JnF)∧(type_of% @Jnd))∧((type_of% @Jn5)∧(type_of% @JqA)))∧(((type_of% @Jjt)∧(type_of% @JjM))∧((type_of% @Jjr)∧((type_of% @JyI)∧(type_of% @JsJ)))))):=⟨⟨⟨⟨@Jut,@JmL⟩,⟨@JvX,@JnP⟩⟩,⟨⟨@JmM,@JnO⟩,⟨@JnV,@Jnv⟩⟩⟩,⟨⟨⟨@JnF,@Jnd⟩,⟨@Jn5,@JqA⟩⟩,⟨⟨@Jjt,@JjM⟩,⟨@Jjr,⟨@JyI,@JsJ⟩⟩⟩⟩⟩
theorem JC2:(((type_of% @JuO)∧(type_of% @Jv6))∧((type_of% @JnH)∧((type_of% @JpI)∧(type_of% @JrE)))):=⟨⟨@JuO,@Jv6⟩,⟨@JnH,⟨@JpI,@JrE⟩⟩⟩
theorem JAY:((type_of% @JpF)∧(type_of% @JnL)):=⟨@JpF,@JnL⟩
theorem JAU:((type_of% @Jo1)∧(type_of% @Jnj)):=⟨@Jo1,@Jnj⟩
theorem JCM:Jc Tryz.prog 9:=Jg Tryz.func9 (by kernel_rfl) (by kernel_rfl)
theorem JCb:Jc Tryz.prog 10:=Jg Tryz.func10 (by kernel_rfl) (by kernel_rfl)
theorem JBy:Jc Tryz.prog 11:=Jg Tryz.func11 (by kernel_rfl) (by kernel_rfl)
theorem Jwm:Jc Tryz.prog 12:=Jg Tryz.func12 (by kernel_rfl) (by kernel_rfl)
theorem JvE:Jc Tryz.prog 13:=Jg Tryz.func13 (by kernel_rfl) (by kernel_rfl)
theorem JBC:Jc Tryz.prog 14:=Jg Tryz.func14 (by kernel_rfl) (by kernel_rfl)
theorem JBn:Jc Tryz.prog 20:=Jg Tryz.func20 (by kernel_rfl) (by kernel_rfl)
theorem JBM:Jc Tryz.prog 21:=Jg Tryz.func21 (by kernel_rfl) (by kernel_rfl)
theorem Jwy:Jc Tryz.prog 22:=Jg Tryz.func22 (by kernel_rfl) (by kernel_rfl)
theorem JwK:Jc Tryz.prog 23:=Jg Tryz.func23 (by kernel_rfl) (by kernel_rfl)
theorem JwA:Jc Tryz.prog 24:=Jg Tryz.func24 (by kernel_rfl) (by kernel_rfl)
theorem JBw:Jc Tryz.prog 26:=Jg Tryz.func26 (by kernel_rfl) (by kernel_rfl)
theorem JvV:Jc Tryz.prog 31:=Jg Tryz.func31 (by kernel_rfl) (by kernel_rfl)
theorem JBE:Jc Tryz.prog 32:=Jg Tryz.func32 (by kernel_rfl) (by kernel_rfl)
theorem JBP:Jc Tryz.prog 33:=Jg Tryz.func33 (by kernel_rfl) (by kernel_rfl)
theorem JCa:Jc Tryz.prog 34:=Jg Tryz.func34 (by kernel_rfl) (by kernel_rfl)
theorem JCe:Jc Tryz.prog 35:=Jg Tryz.func35 (by kernel_rfl) (by kernel_rfl)
theorem JBf:Jc Tryz.prog 36:=Jg Tryz.func36 (by kernel_rfl) (by kernel_rfl)
theorem JBI:Jc Tryz.prog 37:=Jg Tryz.func37 (by kernel_rfl) (by kernel_rfl)
theorem Jwg:Jc Tryz.prog 38:=Jg Tryz.func38 (by kernel_rfl) (by kernel_rfl)
theorem JCg:Jc Tryz.prog 39:=Jg Tryz.func39 (by kernel_rfl) (by kernel_rfl)
theorem JB0:Jc Tryz.prog 46:=Jg Tryz.func46 (by kernel_rfl) (by kernel_rfl)
theorem JBd:Jc Tryz.prog 47:=Jg Tryz.func47 (by kernel_rfl) (by kernel_rfl)
theorem JBQ:Jc Tryz.prog 48:=Jg Tryz.func48 (by kernel_rfl) (by kernel_rfl)
theorem JBh:Jc Tryz.prog 49:=Jg Tryz.func49 (by kernel_rfl) (by kernel_rfl)
theorem JBj:Jc Tryz.prog 50:=Jg Tryz.func50 (by kernel_rfl) (by kernel_rfl)
theorem JBm:Jc Tryz.prog 51:=Jg Tryz.func51 (by kernel_rfl) (by kernel_rfl)
theorem JB9:Jc Tryz.prog 52:=Jg Tryz.func52 (by kernel_rfl) (by kernel_rfl)
theorem JB1:Jc Tryz.prog 53:=Jg Tryz.func53 (by kernel_rfl) (by kernel_rfl)
theorem JBT:Jc Tryz.prog 54:=Jg Tryz.func54 (by kernel_rfl) (by kernel_rfl)
theorem JBU:Jc Tryz.prog 55:=Jg Tryz.func55 (by kernel_rfl) (by kernel_rfl)
theorem JBv:Jc Tryz.prog 56:=Jg Tryz.func56 (by kernel_rfl) (by kernel_rfl)
theorem JBi:Jc Tryz.prog 57:=Jg Tryz.func57 (by kernel_rfl) (by kernel_rfl)
theorem JwB:Jc Tryz.prog 58:=Jg Tryz.func58 (by kernel_rfl) (by kernel_rfl)
theorem Jv5:Jc Tryz.prog 60:=Jg Tryz.func60 (by kernel_rfl) (by kernel_rfl)
theorem JBs:Jc Tryz.prog 66:=Jg Tryz.func66 (by kernel_rfl) (by kernel_rfl)
theorem JBg:Jc Tryz.prog 67:=Jg Tryz.func67 (by kernel_rfl) (by kernel_rfl)
theorem Jon:Jc Tryz.prog 68:=Jg Tryz.func68 (by kernel_rfl) (by kernel_rfl)
theorem JB5:Jc Tryz.prog 69:=Jg Tryz.func69 (by kernel_rfl) (by kernel_rfl)
theorem JoE:Jc Tryz.prog 70:=Jg Tryz.func70 (by kernel_rfl) (by kernel_rfl)
theorem JBp:Jc Tryz.prog 71:=Jg Tryz.func71 (by kernel_rfl) (by kernel_rfl)
theorem Jou:Jc Tryz.prog 72:=Jg Tryz.func72 (by kernel_rfl) (by kernel_rfl)
theorem JBt:Jc Tryz.prog 73:=Jg Tryz.func73 (by kernel_rfl) (by kernel_rfl)
theorem JBl:Jc Tryz.prog 74:=Jg Tryz.func74 (by kernel_rfl) (by kernel_rfl)
theorem JBV:Jc Tryz.prog 75:=Jg Tryz.func75 (by kernel_rfl) (by kernel_rfl)
theorem JBO:Jc Tryz.prog 76:=Jg Tryz.func76 (by kernel_rfl) (by kernel_rfl)
theorem JBZ:Jc Tryz.prog 77:=Jg Tryz.func77 (by kernel_rfl) (by kernel_rfl)
theorem JBq:Jc Tryz.prog 78:=Jg Tryz.func78 (by kernel_rfl) (by kernel_rfl)
theorem JBH:Jc Tryz.prog 79:=Jg Tryz.func79 (by kernel_rfl) (by kernel_rfl)
theorem JBG:Jc Tryz.prog 80:=Jg Tryz.func80 (by kernel_rfl) (by kernel_rfl)
theorem JBB:Jc Tryz.prog 81:=Jg Tryz.func81 (by kernel_rfl) (by kernel_rfl)
theorem JBr:Jc Tryz.prog 85:=Jg Tryz.func85 (by kernel_rfl) (by kernel_rfl)
theorem JoN:Jc Tryz.prog 86:=Jg Tryz.func86 (by kernel_rfl) (by kernel_rfl)
theorem JBo:Jc Tryz.prog 90:=Jg Tryz.func90 (by kernel_rfl) (by kernel_rfl)
theorem JBY:Jc Tryz.prog 91:=Jg Tryz.func91 (by kernel_rfl) (by kernel_rfl)
theorem Jzb:Jc Tryz.prog 100:=Jg Tryz.func100 (by kernel_rfl) (by kernel_rfl)
theorem Jzz:Jc Tryz.prog 101:=Jg Tryz.func101 (by kernel_rfl) (by kernel_rfl)
theorem JuL:Jc Tryz.prog 102:=Jg Tryz.func102 (by kernel_rfl) (by kernel_rfl)
theorem Jt0:Jc Tryz.prog 103:=Jg Tryz.func103 (by kernel_rfl) (by kernel_rfl)
theorem JzG:Jc Tryz.prog 104:=Jg Tryz.func104 (by kernel_rfl) (by kernel_rfl)
theorem Jz6:Jc Tryz.prog 105:=Jg Tryz.func105 (by kernel_rfl) (by kernel_rfl)
theorem Jzj:Jc Tryz.prog 106:=Jg Tryz.func106 (by kernel_rfl) (by kernel_rfl)
theorem JAf:Jc Tryz.prog 108:=Jg Tryz.func108 (by kernel_rfl) (by kernel_rfl)
theorem JzJ:Jc Tryz.prog 109:=Jg Tryz.func109 (by kernel_rfl) (by kernel_rfl)
theorem Jzq:Jc Tryz.prog 110:=Jg Tryz.func110 (by kernel_rfl) (by kernel_rfl)
theorem Jzx:Jc Tryz.prog 114:=Jg Tryz.func114 (by kernel_rfl) (by kernel_rfl)
theorem JzM:Jc Tryz.prog 115:=Jg Tryz.func115 (by kernel_rfl) (by kernel_rfl)
theorem JAy:Jc Tryz.prog 116:=Jg Tryz.func116 (by kernel_rfl) (by kernel_rfl)
theorem JuC:Jc Tryz.prog 121:=Jg Tryz.func121 (by kernel_rfl) (by kernel_rfl)
theorem JzT:Jc Tryz.prog 122:=Jg Tryz.func122 (by kernel_rfl) (by kernel_rfl)
theorem Jzf:Jc Tryz.prog 123:=Jg Tryz.func123 (by kernel_rfl) (by kernel_rfl)
theorem JAu:Jc Tryz.prog 124:=Jg Tryz.func124 (by kernel_rfl) (by kernel_rfl)
theorem JAG:Jc Tryz.prog 125:=Jg Tryz.func125 (by kernel_rfl) (by kernel_rfl)
theorem JzC:Jc Tryz.prog 126:=Jg Tryz.func126 (by kernel_rfl) (by kernel_rfl)
theorem JAg:Jc Tryz.prog 127:=Jg Tryz.func127 (by kernel_rfl) (by kernel_rfl)
theorem JAd:Jc Tryz.prog 128:=Jg Tryz.func128 (by kernel_rfl) (by kernel_rfl)
theorem Jl8:Jc Tryz.prog 129:=Jg Tryz.func129 (by kernel_rfl) (by kernel_rfl)
theorem JAD:Jc Tryz.prog 130:=Jg Tryz.func130 (by kernel_rfl) (by kernel_rfl)
theorem JAb:Jc Tryz.prog 131:=Jg Tryz.func131 (by kernel_rfl) (by kernel_rfl)
theorem JAm:Jc Tryz.prog 132:=Jg Tryz.func132 (by kernel_rfl) (by kernel_rfl)
theorem JAx:Jc Tryz.prog 133:=Jg Tryz.func133 (by kernel_rfl) (by kernel_rfl)
theorem JzE:Jc Tryz.prog 138:=Jg Tryz.func138 (by kernel_rfl) (by kernel_rfl)
theorem Jz1:Jc Tryz.prog 143:=Jg Tryz.func143 (by kernel_rfl) (by kernel_rfl)
theorem Jzc:Jc Tryz.prog 144:=Jg Tryz.func144 (by kernel_rfl) (by kernel_rfl)
theorem JAC:Jc Tryz.prog 145:=Jg Tryz.func145 (by kernel_rfl) (by kernel_rfl)
theorem JzP:Jc Tryz.prog 146:=Jg Tryz.func146 (by kernel_rfl) (by kernel_rfl)
theorem JzA:Jc Tryz.prog 147:=Jg Tryz.func147 (by kernel_rfl) (by kernel_rfl)
theorem JzU:Jc Tryz.prog 148:=Jg Tryz.func148 (by kernel_rfl) (by kernel_rfl)
theorem JAA:Jc Tryz.prog 149:=Jg Tryz.func149 (by kernel_rfl) (by kernel_rfl)
theorem Jzu:Jc Tryz.prog 159:=Jg Tryz.func159 (by kernel_rfl) (by kernel_rfl)
theorem Jzg:Jc Tryz.prog 160:=Jg Tryz.func160 (by kernel_rfl) (by kernel_rfl)
theorem JzQ:Jc Tryz.prog 161:=Jg Tryz.func161 (by kernel_rfl) (by kernel_rfl)
theorem Jzh:Jc Tryz.prog 162:=Jg Tryz.func162 (by kernel_rfl) (by kernel_rfl)
theorem JuH:Jc Tryz.prog 163:=Jg Tryz.func163 (by kernel_rfl) (by kernel_rfl)
theorem Jzy:Jc Tryz.prog 166:=Jg Tryz.func166 (by kernel_rfl) (by kernel_rfl)
theorem JAh:Jc Tryz.prog 167:=Jg Tryz.func167 (by kernel_rfl) (by kernel_rfl)
theorem Jz7:Jc Tryz.prog 174:=Jg Tryz.func174 (by kernel_rfl) (by kernel_rfl)
theorem JAE:Jc Tryz.prog 177:=Jg Tryz.func177 (by kernel_rfl) (by kernel_rfl)
theorem JzH:Jc Tryz.prog 180:=Jg Tryz.func180 (by kernel_rfl) (by kernel_rfl)
theorem JvG(l:List UInt8):u8s l=List.map dU l:=rfl
theorem mixed:Tryz.prog.follows .mixedOrders=true:=Tryz.checked.mixed
theorem Jo{α:Type}(σ:Nat→α)(d:Nat)(x:α)(i:Nat):upd σ d x i=if i=d then x else σ i:=rfl
theorem JjD{α:Type}(l:List α)(i:Nat):(l.drop i).take (l.length-i)=l.drop i:=List.take_of_length_le (by simp)
theorem Jpu{α β:Type}(f:α→β)(l:List α)(i:Nat):(l.map f).drop i=(l.drop i).map f:=List.map_drop.symm
theorem Jql{α β:Type}(f:α→β)(l:List α)(i:Nat):(l.map f).take i=(l.take i).map f:=List.map_take.symm
theorem Js{S R:Type}{b:S→Option (S ⊕ R)}{n:Nat}{x:Option R}{o:S ⊕ R}{out:R}(h:inrO x=some o)(hF:Fin' b n o out):x=some out:=by
 obtain⟨r,h1,rfl⟩:=JxC h
 cases hF
 exact h1
theorem JG{S R:Type}{b:S→Option (S ⊕ R)}{n:Nat}{s:S}{o:S ⊕ R}{out:R}(h:(some (.inl s):Option (S ⊕ R))=some o)(hF:Fin' b n o out):Fin' b n (.inl s) out:=by
 obtain rfl:=Option.some.inj h
 exact hF
end Go.Proofs.YtfkhlbhjhdpkoaaGreatDoor
